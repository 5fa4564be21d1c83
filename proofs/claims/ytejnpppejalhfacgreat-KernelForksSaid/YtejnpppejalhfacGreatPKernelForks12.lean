/- Texts that the proof stands on, one behind the other: Ke36, Ke37, Ke47, Ke48, Cx1, Cx2. -/
import Derived.Test.YtejnpppejalhfacGreatPKernelForks11
set_option linter.unusedVariables false
set_option linter.unusedSimpArgs false
namespace Go.Proofs.YtejnpppejalhfacGreat
set_option maxRecDepth 100000
set_option maxHeartbeats 8000000
open Go.RowKit Go.Sort
def a0X (k:KV) (p:En->Bool) (l:List En):KV:=(l.filter p).foldl x8 k
def fgV (k:KV) (sp:Nat) (x:Sp) (p:En->Bool) (ve:Value):KV:={ a0X k p x.s.entries with sp:=k.sp.set sp ⟨⟨x.s.live,x.s.areas,x.s.entries.filter fun e=>!p e⟩,x.va,ve⟩ }
structure a4j (k k':KV):Prop where
 sh:k'.sh=k.sh
 sp:k'.sp=k.sp
 hand:k'.hand=k.hand
 vsh:k'.vsh=k.vsh
 vfr:k'.vfr=k.vfr
 vsl:k'.vsl=k.vsl
 vsp:k'.vsp=k.vsp
theorem a9k (k:KV) (e:En):a4j k (x8 k e):=by
 unfold x8
 split <;> exact ⟨rfl,rfl,rfl,rfl,rfl,rfl,rfl⟩
theorem a0I:∀ (l:List En) (k:KV),a4j k (l.foldl x8 k)
 |[],_=>⟨rfl,rfl,rfl,rfl,rfl,rfl,rfl⟩
 |e::l,k=>by
  have h:=a9k k e;have h2:=a0I l (x8 k e);exact ⟨h2.sh.trans h.sh,h2.sp.trans h.sp,h2.hand.trans h.hand,h2.vsh.trans h.vsh,h2.vfr.trans h.vfr,h2.vsl.trans h.vsl,h2.vsp.trans h.vsp⟩
theorem a8j:∀ (l:List En) (k:KV),(l.foldl x8 k).K=l.foldl v9 k.K
 |[],_=>rfl
 |e::l,k=>by rw [xf4,a8j l,b36];rfl
theorem KRo.letS {F:Nat->Prop} {w:World} {k k':KV} (h:KRo F w k) (s:a4j k k'):KRo F w k':=⟨by rw [s.sh,s.vsh];exact h.sh,by rw [s.sp];exact h.ar⟩
theorem a9q {l:List En} {i:Nat} {e:En} (h:l[i]?=some e) (k:KV) (p:En->Bool):a0X k p (l.take (i + 1))=if p e=true then x8 (a0X k p (l.take i)) e else a0X k p (l.take i):=by
 unfold a0X;rw [xj9,h,xk0,xl1];by_cases hp:p e=true
 ·rw [xe6 hp,xk9 hp,xk8,xk1];rfl
 ·rw [xe7 hp,xl0 hp,xk8,List.append_nil]
theorem a9G {F:Nat->Prop} {w0 w:World} {Γ:List Asr} {g:Nat} {k:KV} {sp:Nat} {vh:Value} {held:List Nat} (hS0:St F w0 w (wkS g k sp vh held++Γ)) (hR0:KRo (fps (wkS g k sp vh held)) w k) {x:Sp} (hx:k.sp[sp]?=some x) {p:En->Bool} {kf:FuncId} {caps:List Value}
  (hf:∀ e ∈ x.s.entries,∀ w' Γ',St (fps (wkS g k sp vh held)) w w' Γ'->Fn Tryz.prog kf ([.agg (enC e).toArray]++caps) w' (RBf (.bool (p e)) w')) (hE:∀ i e,x.s.entries[i]?=some e->p e=true->a5X (a0X k p (x.s.entries.take i)) e) :
  Fn Tryz.prog 46 [.pointer (some ⟨g,0,none⟩),.func (.func kf) #[] caps.toArray] w (fun v w'=>v=.tuple #[]/\∃ ve,St (fps (wkS g k sp vh held)) w w' (wkS g (fgV k sp x p ve) sp vh held)):=by
 have hS:=St.startM hS0;have hR:=hR0;generalize fps (wkS g k sp vh held)=G at hS hR hf |-;clear hR0 hS0;have hxm:=xc8 hx;obtain ⟨bs,os,cs,hvsp⟩:=(WkV.of (Γ:=[]) (by rw [List.append_nil];exact hS) hR).ker.sp.form1 hx;have hel:x.s.entries.length<=9223372036854775807:=by
  have:=((WkV.of (Γ:=[]) (by rw [List.append_nil];exact hS) hR).ker.spv x hxm).en.bound;omega
 have hsm:∀ l,a4j k (a0X k p l):=fun l=>a0I _ k;have hV:∀ l w1 Γ1,St G w w1 (wkS g (a0X k p l) sp vh held++Γ1)->WkV w1 g (a0X k p l) sp vh held:=fun l w1 Γ1 h=>WkV.of h (hR.letS (hsm l));have hspc:=fun l w1 Γ1 (h:St G w w1 (wkS g (a0X k p l) sp vh held++Γ1))=>a3E (hV l w1 Γ1 h) (by rw [(hsm l).sp];exact d8 hx);have e9:∀ l,a7t (a0X k p l).vsp (sp * 3)=.pointer (some ⟨bs,os + sp * 3,none⟩):=fun l=>by rw [(hsm l).vsp,hvsp];rfl
 simp only [e9] at hspc;have hrowS:=f6 (f:=spC) hx;unfold spC at hrowS;have hspV:∀ l w1 Γ1,St G w w1 (wkS g (a0X k p l) sp vh held++Γ1)->Sl nF w1 3 (.slice (some ⟨bs,os,none⟩) k.sp.length cs) (k.sp.map fun q=>[.bool q.s.live,q.va,q.ve]):=fun l w1 Γ1 h=>by
  have:=(hV l w1 Γ1 h).ker.sp;rw [(hsm l).vsp,(hsm l).sp,hvsp] at this;exact this
 have hEn:∀ l w1 Γ1,St G w w1 (wkS g (a0X k p l) sp vh held++Γ1)->Sl nF w1 3 x.ve (x.s.entries.map enC):=fun l w1 Γ1 h=>((hV l w1 Γ1 h).ker.spv x (by rw [(hsm l).sp];exact hxm)).en;obtain ⟨pe,ce,hve⟩:=((WkV.of (Γ:=[]) (by rw [List.append_nil];exact hS) hR).ker.spv x hxm).en.len;rw [hve] at hrowS hEn;replace hS:St G w w (wkS g (a0X k p []) sp vh held++[]):=by rw [List.append_nil];exact hS
 refine yEn Tryz.func46 Tryz.ntmps46 (by kernel_rfl) (by kernel_rfl) rfl rfl ?_
 repeat' (first|(with_reducible apply d5 c9);rfl;rfl;rfl|refine yDn (by with_reducible constructor) ?_|(with_reducible apply f8 hS);rfl;rfl;rfl;refine ⟨_,hspc _ _ _ hS,?_⟩;clear hS;intro w' hS|(with_reducible apply a4G c9);rfl;rfl;rfl;refine ⟨_,(hspV _ _ _ hS).cel hrowS rfl,?_⟩)
 refine k9 (F:=G) (w0:=w) (X:=Nat) (fun i=>[(14,.int .i64 (i:Nat))]) [0,1,4,12,13] rfl (fun i=>wkS g (a0X k p (x.s.entries.take i)) sp vh held) (fun i=>i<=x.s.entries.length) (fun i=>x.s.entries.length - i) 0 (by exact Fr.sub_of rfl) (xf8 _) hS ?_;clear hS;intro i w1 hi hS;dsimp only [List.cons_append,List.nil_append] at hi |-;by_cases hlt:i < x.s.entries.length
 ·have hdl:decide ((i:Int) < (x.s.entries.length:Int))=true:=xj1 (by omega);obtain ⟨e,he⟩:=i3 (l:=x.s.entries) (i:=i) (by omega);obtain ⟨b,off,rfl,-⟩:=(hEn _ _ _ hS).at_ hlt;have hrowE:=f6 (f:=enC) he;have hnx:=a9q he k p;have hem:=xc8 he;have hwh:=fun w' Γ' h=>hf e hem w' Γ' h;unfold enC at hrowE hwh
  cases hp:p e with
  |true=>
   rw [hp] at hwh hnx;rw [xe6 rfl] at hnx;have hlet:=fun w1 Γ1 (h:St G w w1 (wkS g (a0X k p (x.s.entries.take i)) sp vh held++Γ1))=>b2p h (hE i e he hp);unfold enC at hlet
   repeat' (first|(with_reducible apply d5 c9);rfl;rfl;rfl|(with_reducible apply d6);rfl;(apply Ld.st c9;rfl;exact hS.blkR 0 rfl;rfl);rfl|(with_reducible apply l3 c9);rfl;rfl;rfl;rfl;omega;rfl|refine yDn (by with_reducible constructor) ?_|((with_reducible apply i4);rfl;first|rfl|assumption)|(with_reducible apply f7 hS c9);rfl;rfl;rfl;clear hS;intro g w' hS|(with_reducible apply d7 hS c9 (i:=0));(iterate 8 rfl);exact (rfl:_=[_,_,_]);clear hS;intro w' hS;simp only [List.set] at hS|(with_reducible apply a09 c9);rfl;rfl;rfl;refine ⟨_,(hEn _ _ _ hS).rng hrowE,rfl,?_⟩|(with_reducible apply a1v);rfl;rfl;exact hwh _ _ hS;rfl;rintro _ w' ⟨rfl,hS'⟩;(replace hS:=hS.trans hS');simp only [List.nil_append] at hS;clear hS')
   rw [List.append_nil] at hS;replace hS:=hS.perm (xi3 _ _).symm;refine a1v (first:=[]) (caps:=[]) rfl rfl (hlet _ _ hS) rfl ?_;rintro _ w2 ⟨rfl,h2⟩;replace hS:=(St.transM hS h2).perm (xi3 _ _);clear h2
   repeat' (first|(with_reducible apply d5 c9);rfl;rfl;rfl|(with_reducible apply j0);rfl;rfl;omega;omega;rfl|refine yDn (by with_reducible constructor) ?_)
   refine g0 (i + 1) (by exact Fr.sub_of rfl) (by omega) ?_ (by omega);rw [hnx,List.append_nil];exact hS.drop
  |false=>
   rw [hp] at hwh hnx;rw [xe7 (by simp)] at hnx
   repeat' (first|(with_reducible apply d5 c9);rfl;rfl;rfl|(with_reducible apply d6);rfl;(apply Ld.st c9;rfl;exact hS.blkR 0 rfl;rfl);rfl|(with_reducible apply l3 c9);rfl;rfl;rfl;rfl;omega;rfl|(with_reducible apply j0);rfl;rfl;omega;omega;rfl|refine yDn (by with_reducible constructor) ?_|(with_reducible apply i4);rfl;assumption|(with_reducible apply i5);rfl;rfl|(with_reducible apply f7 hS c9);rfl;rfl;rfl;clear hS;intro g w' hS|(with_reducible apply d7 hS c9 (i:=0));(iterate 8 rfl);exact (rfl:_=[_,_,_]);clear hS;intro w' hS;simp only [List.set] at hS|(with_reducible apply a09 c9);rfl;rfl;rfl;refine ⟨_,(hEn _ _ _ hS).rng hrowE,rfl,?_⟩|(with_reducible apply a1v);rfl;rfl;exact hwh _ _ hS;rfl;rintro _ w' ⟨rfl,hS'⟩;(replace hS:=hS.trans hS');simp only [List.nil_append] at hS;clear hS')
   refine g0 (i + 1) (by exact Fr.sub_of rfl) (by omega) ?_ (by omega);rw [hnx];exact hS.drop
 ·have hdl:decide ((i:Int) < (x.s.entries.length:Int))=false:=xj4 (by omega);obtain rfl:i=x.s.entries.length:=by omega
  rw [xg0] at hS
  repeat' (first|(with_reducible apply d5 c9);rfl;rfl;rfl|refine yDn (by with_reducible constructor) ?_|(with_reducible apply i5);rfl;assumption|(with_reducible apply a4G c9);rfl;rfl;rfl;refine ⟨_,(hspV _ _ _ hS).cel hrowS rfl,?_⟩)
  have hsf:=hsm x.s.entries;have hfg:∀ ve,fgV k sp x p ve={ a0X k p x.s.entries with sp:=k.sp.set sp ⟨⟨x.s.live,x.s.areas,x.s.entries.filter fun e=>!p e⟩,x.va,ve⟩ }:=fun ve=>rfl;simp only [hfg];generalize a0X k p x.s.entries=k1 at hS hsf |-;obtain ⟨sh,fr,sl,sps,hand,vsh,vfr,vsl,vsp⟩:=k;obtain ⟨b1,b2,b3,b4,b5,b6,b7,b8,b9⟩:=k1;obtain ⟨c1,c2,c3,c4,c5,c6,c7⟩:=hsf;dsimp only at c1 c2 c3 c4 c5 c6 c7 hvsp hx hrowS;subst c1 c2 c3 c4 c5 c6 c7;subst hvsp;rw [List.append_nil] at hS;unfold wkS wkB hdA frA slA a14 at hS;dsimp only at hS;have hos:os=0:=by
   obtain ⟨gg,hgg⟩:=hS.rowSome 4 rfl (xk3 (xf8 _) (d8 hx));injection hgg with hgg
   injection hgg
  subst hos;replace hS:=hS.pullE 5 hx rfl;simp only [xi4,xi5,y8] at hS;unfold t5 at hS;rw [hve] at hS;have hdel:=b0z (v:=.slice pe x.s.entries.length ce) (l:=x.s.entries) (p:=p) (k:=kf) (caps:=caps) hS (fun e he w' Γ' h=>hf e he w' _ (St.transM (Θ:=[enA (.slice pe x.s.entries.length ce) x.s.entries]) hS h));refine a1v (first:=[]) (caps:=[]) rfl rfl hdel rfl ?_;clear hdel;rintro _ w2 ⟨q,c,rfl,h2⟩;replace hS:=St.transM (Θ:=[enA (.slice pe x.s.entries.length ce) x.s.entries]) hS h2;clear h2;unfold enA at hS;dsimp only [List.cons_append,List.nil_append] at hS;have e1:(b4.map spC).set sp (n8 [.bool x.s.live,x.va,.slice pe x.s.entries.length ce] 2 [.slice q (x.s.entries.filter fun e=>!p e).length c])=(b4.set sp ⟨⟨x.s.live,x.s.areas,x.s.entries.filter fun e=>!p e⟩,x.va,.slice q (x.s.entries.filter fun e=>!p e).length c⟩).map spC:=by rw [xj2];rfl
  repeat' (first|(with_reducible apply d5 c9);rfl;rfl;rfl|refine yDn (by with_reducible constructor) ?_|(with_reducible apply t2 hS c9 (i:=5));(iterate 4 rfl);assumption;(iterate 5 rfl);intro w' hS';simp only [List.set] at hS';clear hS;have hS:=hS';clear hS')
  rw [e1] at hS
  (refine b0U rfl ?_)
  refine ⟨rfl,.slice q (x.s.entries.filter fun e=>!p e).length c,?_⟩;replace hS:=St.pushE (y:=⟨⟨x.s.live,x.s.areas,x.s.entries.filter fun e=>!p e⟩,x.va,.slice q (x.s.entries.filter fun e=>!p e).length c⟩) hS 5 hx rfl;simp only [xi4,xi5,y8] at hS;unfold wkS wkB hdA frA slA a14;exact hS
def a3l (K:Ker) (space:Int):Ker:=if t9 K space=0 then a5F K space.toNat else b2Z
theorem a98 (e:En) (w:World):Fn Tryz.prog 47 [.agg (enC e).toArray] w (RBf (.bool true) w):=by
 unfold enC;refine yEn Tryz.func47 Tryz.ntmps47 (by kernel_rfl) (by kernel_rfl) rfl rfl ?_;have hS:=St.start w
 repeat' (first|(with_reducible apply d5 c9);rfl;rfl;rfl|refine yDn (by with_reducible constructor) ?_|(with_reducible apply j6 hS);rfl;rfl;rfl;clear hS;intro g w' hS)
 (refine j5 rfl ?_)
 exact ⟨rfl,hS.sub (xi9 _)⟩
theorem a7z:∀ (l:List En) (k:KV),(l.foldl x8 k).fr.length=k.fr.length/\(l.foldl x8 k).sl.length=k.sl.length
 |[],_=>⟨rfl,rfl⟩
 |e::l,k=>by
  obtain ⟨h1,h2⟩:=a7z l (x8 k e);have h:=b2s k e;exact ⟨h1.trans h.2.2.1,h2.trans h.2.2.2⟩
theorem b0r {k:KV} (hr:Right k.K) {sp:Nat} {x:Sp} (hx:k.sp[sp]?=some x) (p:En->Bool) (i:Nat) (e:En) (he:x.s.entries[i]?=some e):a5X (a0X k p (x.s.entries.take i)) e:=by
 have h0:=a4n hr hx (xc8 he);obtain ⟨-,hb⟩:=b0P p x.s.entries (D:=[]) hr (a1r hx) rfl;have hbi:=hb i;obtain ⟨l1,l2⟩:=a7z ((x.s.entries.take i).filter p) k;have eK:=a8j ((x.s.entries.take i).filter p) k;have e1:(a0X k p (x.s.entries.take i)).fr=(((x.s.entries.take i).filter p).foldl v9 k.K).frames:=congrArg Ker.frames eK;have e2:(a0X k p (x.s.entries.take i)).sl=(((x.s.entries.take i).filter p).foldl v9 k.K).slots:=congrArg Ker.slots eK;refine ⟨?_,by rw [e1];exact hbi.1,by rw [e2];exact hbi.2⟩;have:=h0.names;unfold a0X;rw [l1,l2];exact this
theorem b1C {k:KV} {sp:Nat} {x:Sp} (hx:k.sp[sp]?=some x) (p:En->Bool) (ve:Value):v7 (fgV k sp x p ve)=v7 k:=by
 have h:=a0I (x.s.entries.filter p) k;unfold v7 fgV a0X;dsimp only;rw [h.vsh,h.sh];have e:(k.sp.set sp ⟨⟨x.s.live,x.s.areas,x.s.entries.filter fun e=>!p e⟩,x.va,ve⟩).map a1z=k.sp.map a1z:=b1O hx rfl;rw [e]
theorem b25 {k:KV} {sp:Nat} {x:Sp} (hx:k.sp[sp]?=some x) (p:En->Bool) (ve:Value):(fgV k sp x p ve).K=a4f k.K sp p:=by
 have h:=a0I (x.s.entries.filter p) k;have e:=a8j (x.s.entries.filter p) k;have hsp:=a0v (a1r hx);have he:x5 k.K sp=x.s.entries:=by unfold x5;rw [hsp]
 unfold fgV a4f fgK a0X;rw [he,hsp,<- e];generalize (x.s.entries.filter p).foldl x8 k=k1 at h |-;obtain ⟨b1,b2,b3,b4,b5,b6,b7,b8,b9⟩:=k1;obtain ⟨c1,c2,c3,c4,c5,c6,c7⟩:=h;dsimp only at c1 c2 c3 c4 c5 c6 c7;subst c1 c2 c3;unfold KV.K;dsimp only;rw [xj2];rfl
theorem a3o {α:Type} {e a S:α} {X E E' F A A':List α} (hE:E.Perm (e::E')) (hA:A.Perm (a::A')):(X++(E++(S::(F++A)))).Perm (a::e::(X++(E'++(S::(F++A'))))):=by
 refine ((hE.append ((hA.append_left F).cons S)).append_left X).trans ?_;have h1:(S::(F++a::A')).Perm (a::(S::(F++A'))):=(List.Perm.cons S xj6).trans (List.Perm.swap _ _ _);refine ((h1.append_left (e::E')).append_left X).trans ?_;refine (List.perm_middle.append_left X).trans ?_;refine List.perm_middle.trans (List.Perm.cons _ ?_);exact xj6
theorem z9 {α β:Type} (f:α->β):∀ {l:List α} {i:Nat} {x:α},l[i]?=some x->(l.map f).Perm (f x::(l.eraseIdx i).map f)
 |[],_,_,h=>by simp at h
 |a::l,0,x,h=>by
  have:a=x:=by simpa using h
  subst this;exact List.Perm.refl _
 |a::l,i + 1,x,h=>((z9 f (l:=l) (i:=i) (by simpa using h)).cons _).trans (List.Perm.swap _ _ _)
theorem b12 {w:World} {k:KV} (hK:KerV w k) (space:Int):Fn Tryz.prog 11 [.agg (kvC k).toArray,.int .i64 space] w (fun v w'=>∃ k',v=.tuple #[.agg (kvC k').toArray,.int .i64 (t9 k.K space)]/\k'.K=a3l k.K space/\Came w w' k'):=by
 have hbeg:=fun w1 (h:KerV w1 k)=>a69 h space;have hK0:=hK;obtain ⟨sh,fr,sl,sps,hand,vsh,vfr,vsl,vsp⟩:=k;obtain ⟨k1,k2,k3,k4,k5⟩:=hK;dsimp only at k1 k2 k3 k4 k5;obtain ⟨p1,c1,rfl⟩:=k1.sl.len;obtain ⟨p2,c2,rfl⟩:=k2.len;obtain ⟨p3,c3,rfl⟩:=k3.len;obtain ⟨p4,c4,rfl⟩:=k4.len;generalize hKK:KV.K ⟨sh,fr,sl,sps,hand,.slice p1 sh.length c1,.slice p2 fr.length c2,.slice p3 sl.length c3,.slice p4 sps.length c4⟩=K at hbeg |-;have hpre:∀ w1 Γ1,St nF w w1 Γ1->KerV w1 ⟨sh,fr,sl,sps,hand,.slice p1 sh.length c1,.slice p2 fr.length c2,.slice p3 sl.length c3,.slice p4 sps.length c4⟩:=fun w1 Γ1 h=>hK0.now h;unfold kvC at hbeg |-;dsimp only at hbeg |-;refine yEn Tryz.func11 Tryz.ntmps11 (by kernel_rfl) (by kernel_rfl) rfl rfl ?_;have hS:=St.start w
 repeat' (first|(with_reducible apply d5 c9);rfl;rfl;rfl|(with_reducible apply d6);rfl;(apply Ld.st c9;rfl;exact hS.blkR 1 rfl;rfl);rfl|refine yDn (by with_reducible constructor) ?_|(with_reducible apply j6 hS);rfl;rfl;rfl;clear hS;intro g w' hS|(with_reducible apply f7 hS c9);rfl;rfl;rfl;clear hS;intro g w' hS)
 rename_i g2 _;refine a1v rfl rfl (hbeg _ (hpre _ _ hS)) rfl ?_;clear hbeg;rintro v w2 (⟨he,rfl,hS'⟩|⟨gw,sp,k',he,hsp,rfl,hk',hS'⟩)
 ·replace hS:=hS.transA hS';simp only [y8] at hS;have hd:decide (t9 K space=0)=false:=xj4 he
  repeat' (first|(with_reducible apply d5 c9);rfl;rfl;rfl|(with_reducible apply s5 c9);rfl;rfl;exact (rfl:_=some [_,_,_,_,_]);rfl|refine yDn (by with_reducible constructor) ?_|(with_reducible apply d7 hS c9 (i:=0));(iterate 8 rfl);exact (rfl:_=[_,_,_,_,_]);clear hS;intro w' hS;simp only [List.set] at hS|(with_reducible apply a0z);rfl;all_goals (intro hb hp;try (exfalso;omega)))
  (apply a2k;repeat (first|exact ResL.nil|apply ResL.tmp;rfl|apply ResL.cell;rfl;(apply Ld.st c9;rfl;exact hS.blkR 0 rfl;rfl)))
  exact ⟨kv0,rfl,by unfold a3l;rw [xe7 he];rfl,xd4 ⟨rfl,hS.sub (xi9 _)⟩⟩
 have hKR:a3l K space=a5F K sp:=by unfold a3l;rw [xe6 he,hsp,xh2]
 rw [hKR,he];obtain ⟨hr,sp2,hsp2,hspl,hlv⟩:=a1R he;obtain rfl:sp=sp2:=by omega
 replace hS:=hS.trans hS';clear hS' hKR he hpre hK0 k1 k2 k3 k4 k5 hKK;rw [xf3] at hS;subst hk';obtain ⟨x,hx⟩:∃ x,k'.sp[sp]?=some x:=by
  have:k'.K.spaces.length=k'.sp.length:=xh8 _;exact i3 (by omega)
 have hfo:=a9G (p:=fun _=>true) (kf:=47) (caps:=[]) hS (KRo.own hS) hx (fun e _ w' _ _=>a98 e w') (fun i e he _=>b0r hr hx _ i e he);have hV0:=WkV.own hS
 repeat' (first|(with_reducible apply d5 c9);rfl;rfl;rfl|refine yDn (by with_reducible constructor) ?_|(with_reducible apply i5);rfl;rfl)
 refine a1v (first:=[]) (caps:=[]) rfl rfl hfo rfl ?_;clear hfo;rintro _ w3 ⟨rfl,ve,h2⟩;replace hS:=St.transM hS h2;clear h2;have hsf:=a0I (x.s.entries.filter fun _=>true) k';have hrA:=b1C hx (fun _=>true) ve;rw [<- hrA] at hS;have hx2:(fgV k' sp x (fun _=>true) ve).sp[sp]?=some ⟨⟨x.s.live,x.s.areas,x.s.entries.filter fun e=>!true⟩,x.va,ve⟩:=by
  show (k'.sp.set sp _)[sp]?=_;rw [xd7,xe6 rfl,xe6 (d8 hx)]
 have hdK:a5F k'.K sp={ (fgV k' sp x (fun _=>true) ve).K with spaces:=(fgV k' sp x (fun _=>true) ve).K.spaces.set sp sc0 }:=by
  rw [b25 hx];rfl
 rw [hdK];clear hdK hrA hsf;generalize fgV k' sp x (fun _=>true) ve=kd at hS hx2 |-;have hV:=WkV.own hS;obtain ⟨bs,os,cs,hvsp⟩:=hV.ker.sp.form1 hx2;obtain ⟨sh',fr',sl',sps',hand',vsh',vfr',vsl',vsp'⟩:=kd;dsimp only at hvsp hx2;subst hvsp;obtain ⟨q1,d1,rfl⟩:∃ p c,vsh'=.slice p sh'.length c:=hV.ker.sh.sl.len;obtain ⟨q2,d2,rfl⟩:∃ p c,vfr'=.slice p fr'.length c:=hV.ker.fr.len;obtain ⟨q3,d3,rfl⟩:∃ p c,vsl'=.slice p sl'.length c:=hV.ker.sl.len;have hspc:=a3E hV (d8 hx2);unfold a7t at hspc;dsimp only at hspc;rw [<- xf3] at hS;replace hS:=hS.perm xi7;dsimp only [List.cons_append,List.nil_append] at hS;have hrowS:=f6 (f:=spC) hx2;unfold spC at hrowS
 repeat' (first|(with_reducible apply d5 c9);rfl;rfl;rfl|(with_reducible apply s5 c9);rfl;rfl;exact (rfl:_=some [_,_,_]);rfl|refine yDn (by with_reducible constructor) ?_|(with_reducible apply f8 hS);rfl;rfl;rfl;refine ⟨_,hspc,?_⟩;clear hS;intro w' hS)
 unfold wkS wkB hdA frA slA a14 at hS;dsimp only [List.cons_append,List.nil_append] at hS;have hos:os=0:=by
  obtain ⟨gg,hgg⟩:=hS.rowSome 6 rfl (xk3 (xf8 _) (d8 hx2));injection hgg with hgg
  injection hgg
 subst hos;dsimp only at hrowS;have e1:(sps'.map spC).set sp (n8 [.bool x.s.live,x.va,ve] 0 [.bool false,.slice none 0 0,.slice none 0 0])=(sps'.set sp ⟨sc0,.slice none 0 0,.slice none 0 0⟩).map spC:=by rw [xj2];rfl
 repeat' (first|(with_reducible apply d5 c9);rfl;rfl;rfl|refine yDn (by with_reducible constructor) ?_|(with_reducible apply a0E hS c9 (i:=6));(iterate 4 rfl);assumption;(iterate 5 rfl);intro w' hS';simp only [List.set] at hS';clear hS;have hS:=hS';clear hS')
 rw [e1] at hS
 repeat' (first|(with_reducible apply d5 c9);rfl;rfl;rfl|refine yDn (by with_reducible constructor) ?_|(with_reducible apply d7 hS c9 (i:=0));(iterate 8 rfl);exact (rfl:_=[_,_,_,_,_]);clear hS;intro w' hS;simp only [List.set] at hS|(with_reducible apply a09 c9);rfl;rfl;rfl;refine ⟨_,hS.blkRk 2 0 5 rfl,rfl,?_⟩)
 (apply a2k;repeat (first|exact ResL.nil|apply ResL.tmp;rfl|apply ResL.cell;rfl;(apply Ld.st c9;rfl;exact hS.blkR 0 rfl;rfl)))
 refine ⟨⟨sh',fr',sl',sps'.set sp ⟨sc0,.slice none 0 0,.slice none 0 0⟩,hand',.slice q1 sh'.length d1,.slice q2 fr'.length d2,.slice q3 sl'.length d3,.slice (some ⟨bs,0,none⟩) sps'.length cs⟩,rfl,?_,xd1 ?_⟩
 ·unfold KV.K;dsimp only;rw [xj2]
 ·have h1:=hS.sub (.cons _ (.cons _ (.cons _ (.cons _ (.refl _)))));have h2:=h1.perm (a3o (X:=[_,_,_]) (z9 t5 hx2) (z9 a1z hx2));have h3:=(h2.drop.drop.addNil 82 3).addNil 136 4;have hz:(sps'.set sp ⟨sc0,.slice none 0 0,.slice none 0 0⟩)[sp]?=some ⟨sc0,.slice none 0 0,.slice none 0 0⟩:=by rw [xd7,xe6 rfl,xe6 (d8 hx2)]
  have hE:=z9 t5 hz;have hA:=z9 a1z hz;rw [a1E] at hE hA;exact h3.perm (a3o (X:=[_,_,_]) hE hA).symm
theorem b06 (s:List Sp) (k:KV) (e:En):x8 { k with sp:=s } e={ x8 k e with sp:=s }:=by
 unfold x8
 split <;> rfl
theorem a4M (s:List Sp):∀ (l:List En) (k:KV),l.foldl x8 { k with sp:=s }={ l.foldl x8 k with sp:=s }
 |[],_=>rfl
 |e::l,k=>by
  rw [xf4,xf4,b06,a4M s l]
theorem b3I {k:KV} {sp:Nat} {x:Sp} (hx:k.sp[sp]?=some x) (va ve:Value):(x.s.entries.foldl x8 { k with sp:=k.sp.set sp ⟨sc0,va,ve⟩ }).K=a5F k.K sp:=by
 rw [show a5F k.K sp=b1q (a4f k.K sp fun _=>true) sp sc0 from rfl,<- b25 hx (fun _=>true) x.ve,a4M];have hsm:=a0I x.s.entries k;have hft:x.s.entries.filter (fun _=>true)=x.s.entries:=xl2.2 fun _ _=>rfl;unfold fgV a0X;rw [hft];unfold b1q KV.K;dsimp only;rw [xj2,xj2,xj3]
theorem a71 {α β:Type} {f:β->α->β} {l:List α} {i:Nat} {e:α} (h:l[i]?=some e) (b:β):(l.take (i + 1)).foldl f b=f ((l.take i).foldl f b) e:=by
 rw [n5 h,xk1];rfl
theorem b2m {F:Nat->Prop} {w0 w:World} {a b c:Asr} {g:Nat} {k:KV} (hS:St F w0 w (a::b::c::(.blk g (kvC k)::frA k::slA k::a14 k::(k.sp.map t5++v7 k)))):St F w0 w (rkS g k++(v7 k++[a,b,c])):=by
 refine hS.perm ?_;have h:([a,b,c]++(rkS g k++v7 k)).Perm ((rkS g k++v7 k)++[a,b,c]):=xi7;rw [xf3] at h;exact h
theorem b2n {F:Nat->Prop} {w0 w:World} {a b c:Asr} {g:Nat} {k:KV} {R:List Asr} (hS:St F w0 w (rkS g k++(R++[a,b,c]))):St F w0 w (a::b::c::(.blk g (kvC k)::frA k::slA k::a14 k::(k.sp.map t5++R))):=by
 refine hS.perm ?_;rw [<- xf3];exact xi7
theorem b1z {k:KV} (hr:Right k.K) {sp:Nat} {x:Sp} (hx:k.sp[sp]?=some x) (s:List Sp) (i:Nat) (e:En) (he:x.s.entries[i]?=some e):a5X ((x.s.entries.take i).foldl x8 { k with sp:=s }) e:=by
 have h:=b0r hr hx (fun _=>true) i e he;have hft:(x.s.entries.take i).filter (fun _=>true)=x.s.entries.take i:=xl2.2 fun _ _=>rfl;unfold a0X at h;rw [hft] at h;rw [a4M];exact ⟨h.1,h.2,h.3⟩
theorem a94 {w:World} {k:KV} (hK:KerV w k) (space:Int):Fn Tryz.prog 13 [.agg (kvC k).toArray,.int .i64 space] w (fun v w'=>∃ k',v=.tuple #[.agg (kvC k').toArray,.int .i64 (t9 k.K space)]/\k'.K=a3l k.K space/\Came w w' k'):=by
 have hli:=fun w1 (h:KerV w1 k)=>a7d h space;have hown:=fun w1 (h:KerV w1 k) (hr:Right k.K)=>a8Q h (a8F hr);obtain ⟨sh,fr,sl,sps,hand,vsh,vfr,vsl,vsp⟩:=k;have hK0:=hK;obtain ⟨k1,k2,k3,k4,k5⟩:=hK;dsimp only at k1 k2 k3 k4 k5;obtain ⟨p1,c1,rfl⟩:=k1.sl.len;obtain ⟨p2,c2,rfl⟩:=k2.len;obtain ⟨p3,c3,rfl⟩:=k3.len;obtain ⟨p4,c4,rfl⟩:=k4.len;generalize hKK:KV.K ⟨sh,fr,sl,sps,hand,.slice p1 sh.length c1,.slice p2 fr.length c2,.slice p3 sl.length c3,.slice p4 sps.length c4⟩=K at hli hown |-;unfold kvC at hli hown |-;dsimp only at hli hown |-;refine yEn Tryz.func13 Tryz.ntmps13 (by kernel_rfl) (by kernel_rfl) rfl rfl ?_;have hS:=St.start w;by_cases he:t9 K space=0
 ·obtain ⟨hr,sp,rfl,hspl,hlv⟩:=a1R he;have hd:decide (t9 K (sp:Int)=0)=true:=xj1 he;have hKR:a3l K (sp:Int)=a5F K sp:=by unfold a3l;rw [xe6 he,xh2]
  rw [hKR,he];rw [he] at hli
  repeat' (first|(with_reducible apply d5 c9);rfl;rfl;rfl|(with_reducible apply d6);rfl;(apply Ld.st c9;rfl;exact hS.blkR 1 rfl;rfl);rfl|refine yDn (by with_reducible constructor) ?_|(with_reducible apply j6 hS);rfl;rfl;rfl;clear hS;intro g w' hS|(with_reducible apply f7 hS c9);rfl;rfl;rfl;clear hS;intro g w' hS|(with_reducible apply f8 hS);rfl;rfl;rfl;refine ⟨_,hli _ (hK0.now hS),?_⟩;clear hS;intro w' hS|first|(with_reducible apply i5);rfl;rfl|(with_reducible apply a0g);rfl;rfl;rfl;refine ⟨_,hown _ (hK0.now hS) hr,?_⟩;rintro _ w2 ⟨k2,rfl,hk2,h2⟩)
  replace h2:=h2.perm (a4k k2);replace hS:=hS.trans h2;clear h2 hown hli;rw [<- hk2] at hr hspl hlv |-;have hV:=KerV.own hS;obtain ⟨x,hx⟩:∃ x,k2.sp[sp]?=some x:=by
   have:k2.K.spaces.length=k2.sp.length:=xh8 _;exact i3 (by omega)
  have hxm:=xc8 hx;have hfg:=b1z hr hx (k2.sp.set sp ⟨sc0,.slice none 0 0,.slice none 0 0⟩);have hdK:=b3I hx (.slice none 0 0) (.slice none 0 0);obtain ⟨bs,os,cs,hvsp⟩:=hV.sp.form1 hx;obtain ⟨pe,ce,hve⟩:=(hV.spv x hxm).en.len;have hel:x.s.entries.length<=9223372036854775807:=by have:=(hV.spv x hxm).en.bound;omega
  obtain ⟨sh2,fr2,sl2,sp2,hand2,vsh2,vfr2,vsl2,vsp2⟩:=k2;dsimp only at hvsp hx;subst hvsp;obtain ⟨q1,d1,rfl⟩:∃ p c,vsh2=.slice p sh2.length c:=hV.sh.sl.len;obtain ⟨q2,d2,rfl⟩:∃ p c,vfr2=.slice p fr2.length c:=hV.fr.len;obtain ⟨q3,d3,rfl⟩:∃ p c,vsl2=.slice p sl2.length c:=hV.sl.len;have hrowS:=f6 (f:=spC) hx;unfold spC at hrowS;dsimp only at hspl hlv hdK hfg;have hspl2:=d8 hx;rw [hve] at hrowS
  repeat' (first|(with_reducible apply d5 c9);rfl;rfl;rfl|(with_reducible apply d6);rfl;(apply Ld.sl c9;rfl;exact hS.blkC 0 rfl rfl);rfl|(with_reducible apply l3 c9);rfl;rfl;rfl;rfl;omega;rfl|refine yDn (by with_reducible constructor) ?_|(with_reducible apply f7 hS c9);rfl;rfl;rfl;clear hS;intro g w' hS|(with_reducible apply d7 hS c9 (i:=0));(iterate 8 rfl);exact (rfl:_=[_,_,_,_,_]);clear hS;intro w' hS;simp only [List.set] at hS)
  unfold frA slA a14 at hS;dsimp only [List.cons_append,List.nil_append] at hS;have hos:os=0:=by
   obtain ⟨gg,hgg⟩:=hS.rowSome 3 rfl (xk3 (xf8 _) (d8 hx));injection hgg with hgg
   injection hgg
  subst hos;have e1:(sp2.map spC).set sp (n8 [.bool x.s.live,x.va,.slice pe x.s.entries.length ce] 0 [.bool false,.slice none 0 0,.slice none 0 0])=(sp2.set sp ⟨sc0,.slice none 0 0,.slice none 0 0⟩).map spC:=by rw [xj2];rfl
  repeat' (first|(with_reducible apply d5 c9);rfl;rfl;rfl|(with_reducible apply d6);rfl;(apply Ld.sl c9;rfl;(first|exact hS.blkC 0 rfl rfl|exact hS.rowCj 3 rfl (by assumption) rfl));rfl|(with_reducible apply l3 c9);rfl;rfl;rfl;rfl;omega;rfl|(with_reducible apply s5 c9);rfl;rfl;exact (rfl:_=some [_,_,_]);rfl|refine yDn (by with_reducible constructor) ?_|(with_reducible apply a0E hS c9 (i:=3));(iterate 4 rfl);assumption;(iterate 5 rfl);intro w' hS';simp only [List.set] at hS';clear hS;have hS:=hS';clear hS')
  rw [e1] at hS;replace hS:=hS.perm (xi7 (l₁:=[_,_,_,_]++(_++_)) (l₂:=_));unfold v7 at hS;dsimp only [List.cons_append,List.nil_append] at hS;replace hS:=hS.perm (a3o (X:=[_,_,_,_,_,_]) (z9 t5 hx) (z9 a1z hx));replace hS:=(hS.drop.addNil 82 3).addNil 136 4;have hz:(sp2.set sp ⟨sc0,.slice none 0 0,.slice none 0 0⟩)[sp]?=some ⟨sc0,.slice none 0 0,.slice none 0 0⟩:=by rw [xd7,xe6 rfl,xe6 (d8 hx)]
  have hE:=z9 t5 hz;have hA:=z9 a1z hz;rw [a1E] at hE hA;replace hS:=hS.perm (a3o (X:=[_,_,_,_,_,_,_]) hE hA).symm;dsimp only [List.cons_append,List.nil_append] at hS
  rename Nat=>g
  try dsimp only at hfg hdK
  obtain ⟨k3,hk3⟩:∃ k3:KV,k3=⟨sh2,fr2,sl2,sp2.set sp ⟨sc0,.slice none 0 0,.slice none 0 0⟩,hand2,.slice q1 sh2.length d1,.slice q2 fr2.length d2,.slice q3 sl2.length d3,.slice (some ⟨bs,0,none⟩) sp2.length cs⟩:=⟨_,rfl⟩;rw [<- hk3] at hfg hdK;replace hS:=b2m (k:=k3) (g:=g) (by rw [hk3];exact hS);have hEn:∀ (L R:List Asr) (a b:Asr) (w1:World),St nF w w1 (L++(R++[t5 x,a,b]))->Sl nF w1 3 (.slice pe x.s.entries.length ce) (x.s.entries.map enC):=fun L R a b w1 h=>by
   have:=h.slMem (e:=82) (sz:=3) (v:=x.ve) (rows:=x.s.entries.map enC) (xe2 _ (xe2 _ xc4));rw [hve] at this;exact this
  refine k9 (F:=nF) (w0:=w) (X:=Nat) (fun i=>[(9,.int .i64 (i:Nat))]) [4,7,8] rfl (fun i=>rkS g ((x.s.entries.take i).foldl x8 k3)) (fun i=>i<=x.s.entries.length) (fun i=>x.s.entries.length - i) 0 (by exact Fr.sub_of rfl) (xf8 _) hS ?_;clear hS;intro i w1 hi hS
  try dsimp only at hi
  try dsimp only at hS
  try dsimp only
  by_cases hlt:i < x.s.entries.length
  ·have hdl:decide ((i:Int) < (x.s.entries.length:Int))=true:=xj1 (by omega);obtain ⟨e,he⟩:=i3 (l:=x.s.entries) (i:=i) (by omega);obtain ⟨b,off,rfl,-⟩:=(hEn _ _ _ _ _ hS).at_ hlt;have hrowE:=f6 (f:=enC) he;have hlet:=a9j hS (hfg i e he);unfold enC at hrowE hlet
   repeat' (first|(with_reducible apply d5 c9);rfl;rfl;rfl|(with_reducible apply l3 c9);rfl;rfl;rfl;rfl;omega;rfl|refine yDn (by with_reducible constructor) ?_|(with_reducible apply i4);rfl;assumption|(with_reducible apply a09 c9);rfl;rfl;rfl;refine ⟨_,(hEn _ _ _ _ _ hS).rng hrowE,rfl,?_⟩)
   refine a1v (first:=[]) (caps:=[]) rfl rfl hlet rfl ?_;rintro _ w2 ⟨rfl,h2⟩;replace hS:=St.transM hS h2;clear h2 hlet
   repeat' (first|(with_reducible apply d5 c9);rfl;rfl;rfl|(with_reducible apply j0);rfl;rfl;omega;omega;rfl|refine yDn (by with_reducible constructor) ?_)
   refine g0 (i + 1) (by exact Fr.sub_of rfl) (by omega) ?_ (by omega);rw [a71 he];exact hS
  ·have hdl:decide ((i:Int) < (x.s.entries.length:Int))=false:=xj4 (by omega);obtain rfl:i=x.s.entries.length:=by omega
   rw [xg0] at hS;have hsf:=a0I x.s.entries k3;generalize x.s.entries.foldl x8 k3=kd at hS hdK hsf;replace hS:=b2n hS;obtain ⟨b1,b2,b3,b4,b5,b6,b7,b8,b9⟩:=kd;obtain ⟨c1,c2,c3,c4,c5,c6,c7⟩:=hsf;rw [hk3] at c1 c2 c3 c4 c5 c6 c7;dsimp only at c1 c2 c3 c4 c5 c6 c7;subst c1 c2 c3 c4 c5 c6 c7;unfold kvC at hS;dsimp only at hS
   repeat' (first|(with_reducible apply d5 c9);rfl;rfl;rfl|(with_reducible apply d6);rfl;(apply Ld.st c9;rfl;exact hS.blkR 3 rfl;rfl);rfl|refine yDn (by with_reducible constructor) ?_|(with_reducible apply i5);rfl;assumption|(with_reducible apply d7 hS c9 (i:=1));(iterate 8 rfl);exact (rfl:_=[_,_,_,_,_]);clear hS;intro w' hS;simp only [List.set] at hS)
   (apply a2k;repeat (first|exact ResL.nil|apply ResL.tmp;rfl|apply ResL.cell;rfl;(apply Ld.st c9;rfl;exact hS.blkR 1 rfl;rfl)))
   refine ⟨_,rfl,hdK,xd1 ?_⟩;rw [hk3] at hS;exact hS.drop.drop.drop.drop
 ·have hd:decide (t9 K space=0)=false:=xj4 he
  repeat' (first|(with_reducible apply d5 c9);rfl;rfl;rfl|(with_reducible apply d6);rfl;(apply Ld.st c9;rfl;exact hS.blkR 1 rfl;rfl);rfl|(with_reducible apply s5 c9);rfl;rfl;exact (rfl:_=some [_,_,_,_,_]);rfl|refine yDn (by with_reducible constructor) ?_|(with_reducible apply j6 hS);rfl;rfl;rfl;clear hS;intro g w' hS|(with_reducible apply f7 hS c9);rfl;rfl;rfl;clear hS;intro g w' hS|(with_reducible apply d7 hS c9 (i:=0));(iterate 8 rfl);exact (rfl:_=[_,_,_,_,_]);clear hS;intro w' hS;simp only [List.set] at hS|(with_reducible apply a0z);rfl;all_goals (intro hb hp;try (exfalso;omega))|(with_reducible apply f8 hS);rfl;rfl;rfl;refine ⟨_,hli _ (hK0.now hS),?_⟩;clear hS;intro w' hS)
  (apply a2k;repeat (first|exact ResL.nil|apply ResL.tmp;rfl|apply ResL.cell;rfl;(apply Ld.st c9;rfl;exact hS.blkR 0 rfl;rfl)))
  exact ⟨kv0,rfl,by unfold a3l;rw [xe7 he];rfl,xd4 ⟨rfl,hS.sub (xi9 _)⟩⟩
theorem b0H {k:KV} {sp:Nat} {y:Sp} (hy:k.sp[sp]?=some y) {a:Asr} {Γ:List Asr}:(a::t5 y::a1z y::Γ).Sublist (a::(a32 k++Γ)):=by
 have hm:=xc8 hy;refine .cons_cons _ ?_;refine List.Sublist.append_right (l₁:=[t5 y,a1z y]) ?_ Γ;unfold a32 v7;refine .cons _ (.cons _ (.cons _ ?_));exact List.Sublist.append (l₁:=[t5 y]) (List.singleton_sublist.2 (xi8.2 ⟨y,hm,rfl⟩)) (.cons _ ((List.singleton_sublist.2 (xi8.2 ⟨y,hm,rfl⟩)).trans (xk5 _ _)))
theorem a9m {w:World} {k:KV} (hK:KerV w k) (space:Int):Fn Tryz.prog 12 [.agg (kvC k).toArray,.int .i64 space] w (fun v w'=>∃ k',v=.tuple #[.agg (kvC k').toArray,.int .i64 (a6Q k.K space),.int .i64 (a24 k.K space)]/\k'.K=a7s k.K space/\Came w w' k'):=by
 have hli:=fun w1 (h:KerV w1 k)=>a7d h space;have hown:=fun w1 (h:KerV w1 k) (hr:Right k.K)=>a8Q h (a8F hr);have hroo:=fun w1 (h:KerV w1 k) hc h4=>a8z h hc h4;obtain ⟨RE,hRE⟩:∃ e,e=a24 k.K space:=⟨_,rfl⟩;unfold a7s a6Q;rw [<- hRE];unfold a24 at hRE;obtain ⟨sh,fr,sl,sps,hand,vsh,vfr,vsl,vsp⟩:=k;have hK0:=hK;obtain ⟨k1,k2,k3,k4,k5⟩:=hK;dsimp only at k1 k2 k3 k4 k5;obtain ⟨p1,c1,rfl⟩:=k1.sl.len;obtain ⟨p2,c2,rfl⟩:=k2.len;obtain ⟨p3,c3,rfl⟩:=k3.len;obtain ⟨p4,c4,rfl⟩:=k4.len;have hlS:(KV.K ⟨sh,fr,sl,sps,hand,.slice p1 sh.length c1,.slice p2 fr.length c2,.slice p3 sl.length c3,.slice p4 sps.length c4⟩).spaces.length=sps.length:=xh8 _;have hlL:(KV.K ⟨sh,fr,sl,sps,hand,.slice p1 sh.length c1,.slice p2 fr.length c2,.slice p3 sl.length c3,.slice p4 sps.length c4⟩).slots.length=sl.length:=rfl;have hlM:(KV.K ⟨sh,fr,sl,sps,hand,.slice p1 sh.length c1,.slice p2 fr.length c2,.slice p3 sl.length c3,.slice p4 sps.length c4⟩).spaces=sps.map (·.s):=rfl;have hlX:∀ {i:Nat} {x:Sp},sps[i]?=some x->(KV.K ⟨sh,fr,sl,sps,hand,.slice p1 sh.length c1,.slice p2 fr.length c2,.slice p3 sl.length c3,.slice p4 sps.length c4⟩).spaces[i]?=some x.s:=fun h=>a1r h;generalize hKK:KV.K ⟨sh,fr,sl,sps,hand,.slice p1 sh.length c1,.slice p2 fr.length c2,.slice p3 sl.length c3,.slice p4 sps.length c4⟩=K at hli hown hRE hlS hlL hlM hlX |-;rw [hlS,hlL] at hRE;rw [hlS];unfold kvC at hli hown hroo |-;dsimp only at hli hown hroo |-;have hno:∀ {w1 Γ1},St nF w w1 Γ1->∀ {e:Int},e≠0->∃ k':KV,Value.tuple #[.agg #[.slice none 0 0,.slice none 0 0,.slice none 0 0,.slice none 0 0,.int .i64 0],.int .i64 0,.int .i64 e]=.tuple #[.agg [k'.vsh,k'.vfr,k'.vsl,k'.vsp,.int .i64 k'.hand].toArray,.int .i64 (if e=0 then ((sps.length:Nat):Int) else 0),.int .i64 e]/\k'.K=(if e=0 then a6U K space.toNat else b2Z)/\Came w w1 k':=by
  intro w1 Γ1 h e he;exact ⟨kv0,by rw [xe7 he];rfl,by rw [xe7 he];rfl,xd4 ⟨rfl,h.sub (xi9 _)⟩⟩
 refine yEn Tryz.func12 Tryz.ntmps12 (by kernel_rfl) (by kernel_rfl) rfl rfl ?_;have hS:=St.start w;by_cases he:t9 K space=0
 ·obtain ⟨hr,sp,rfl,hspl,hlv⟩:=a1R he;rw [xe6 he,xh2] at hRE;rw [xh2] at hno |-;have hd:decide (t9 K (sp:Int)=0)=true:=xj1 he;rw [he] at hli;obtain ⟨x,hx⟩:∃ x,sps[sp]?=some x:=i3 (by omega);have hxm:=xc8 hx;have hsc0:=hlX hx;obtain ⟨hsc,hel⟩:=a1F hr x.s (xc8 hsc0);have hxA:p9 K sp=x.s.areas:=by unfold p9;rw [a0v hsc0]
  rw [hxA] at hRE;by_cases h4:sps.length=4
  ·rw [xe6 h4] at hRE;have hd:decide (((sps.length:Nat):Int)=4)=true:=xj1 (by omega);rw [hRE]
   repeat' (first|(with_reducible apply d5 c9);rfl;rfl;rfl|(with_reducible apply d6);rfl;(first|apply Ld.sl c9;rfl;exact hS.blkC 1 rfl rfl|apply Ld.st c9;rfl;exact hS.blkR 1 rfl;rfl);rfl|refine yDn (by with_reducible constructor) ?_|(with_reducible apply j8);(iterate 4 rfl);rfl|(with_reducible apply i6);rfl;rfl;rfl;rfl|(with_reducible apply i4);rfl;assumption|(with_reducible apply j6 hS);rfl;rfl;rfl;clear hS;intro g w' hS|(with_reducible apply f7 hS c9);rfl;rfl;rfl;clear hS;intro g w' hS|(with_reducible apply f8 hS);rfl;rfl;rfl;refine ⟨_,hli _ (hK0.now hS),?_⟩;clear hS;intro w' hS)
   (focus ((with_reducible apply f5 _ _ _ (by kernel_rfl) (by kernel_rfl) hS);(repeat' ((first|(with_reducible apply f9 c9);rfl;rfl|(first|(with_reducible apply a1e);(iterate 4 rfl);rfl;rfl|(with_reducible apply l9);rfl;rfl;rfl;rfl))));all_goals ((with_reducible apply i9);intro w' hS';clear hS;have hS:=hS';clear hS')))
   repeat' (first|(with_reducible apply d5 c9);rfl;rfl;rfl|(with_reducible apply s5 c9);rfl;rfl;exact (rfl:_=some [_,_,_,_,_]);rfl|refine yDn (by with_reducible constructor) ?_|(with_reducible apply i4);rfl;rfl|(with_reducible apply i5);rfl;rfl|(with_reducible apply d7 hS c9 (i:=0));(iterate 8 rfl);exact (rfl:_=[_,_,_,_,_]);clear hS;intro w' hS;simp only [List.set] at hS)
   (apply a2e;repeat (first|exact ResL.nil|apply ResL.tmp;rfl|apply ResL.cell;rfl;(apply Ld.st c9;rfl;exact hS.blkR 0 rfl;rfl)))
   exact hno hS (by omega)
  rw [xe7 h4] at hRE;have hd4:decide (((sps.length:Nat):Int)=4)=false:=xj4 (by omega);have hcA:∀ p ∈ sps,j3 p.s.areas=0:=fun p hp=>(a1F hr p.s (by rw [hlM];exact xi8.2 ⟨p,hp,rfl⟩)).1.ar;have hsp4:=hr.cnt;have hroo:=fun w1 (h:KerV w1 _)=>hroo w1 h hcA (by omega);rw [<- hlM] at hroo;obtain ⟨hT0,hT1⟩:0<=r9 x.s.areas/\r9 x.s.areas<=70000:=(a0H (hr.spaces x.s (xc8 hsc0))).2;have hR0:0<=o6 K.spaces:=a6e fun s hs=>(a0H (hr.spaces s hs)).2.1;have hR1:o6 K.spaces<=512:=by have:=hr.room;omega
  obtain ⟨pa,ca,hva⟩:=(k5 x hxm).ar.len;obtain ⟨bs,os,hvp⟩:∃ b o,p4=some ⟨b,o,none⟩:=by
   obtain ⟨b,o,h,-⟩:=k4.at_ (i:=sp) (by omega);exact ⟨b,o,h⟩
  subst hvp;have hrowS:=f6 (f:=spC) hx;unfold spC at hrowS;rw [hva] at hrowS;have hspV:∀ {w1 Γ1},St nF w w1 Γ1->Sl nF w1 3 (.slice (some ⟨bs,os,none⟩) sps.length c4) (sps.map fun q=>[.bool q.s.live,q.va,q.ve]):=fun h=>(hK0.now h).sp;have htot:=fun w1 Γ1 (h:St nF w w1 Γ1)=>a6N (w:=w1) (by have:=((k5 x hxm).ar.now h);rw [hva] at this;exact this) hsc.ar;generalize hRm:o6 K.spaces=R at hroo hRE hR0 hR1;generalize hTm:r9 x.s.areas=T at htot hRE hT0 hT1;have hspl2:=d8 hx;by_cases h5:(sl.length:Int) < R + T
  ·rw [xe6 h5] at hRE;have hd2:decide ((sl.length:Int) < R + T)=true:=xj1 h5;rw [hRE]
   repeat' (first|(with_reducible apply d5 c9);rfl;rfl;rfl|(with_reducible apply d6);rfl;(first|apply Ld.sl c9;rfl;exact hS.blkC 1 rfl rfl|apply Ld.st c9;rfl;exact hS.blkR 1 rfl;rfl);rfl|refine yDn (by with_reducible constructor) ?_|(with_reducible apply j8);(iterate 4 rfl);rfl|(with_reducible apply i6);rfl;rfl;rfl;rfl|(with_reducible apply i5);rfl;assumption|(with_reducible apply j6 hS);rfl;rfl;rfl;clear hS;intro g w' hS|(with_reducible apply f7 hS c9);rfl;rfl;rfl;clear hS;intro g w' hS|(with_reducible apply f8 hS);rfl;rfl;rfl;refine ⟨_,hli _ (hK0.now hS),?_⟩;clear hS;intro w' hS)
   (focus ((with_reducible apply f5 _ _ _ (by kernel_rfl) (by kernel_rfl) hS);(repeat' (first|(first|(with_reducible apply a3m);rfl;rfl;omega;omega;rfl|(with_reducible apply f9 c9);rfl;rfl|(with_reducible apply g8);rfl;(intro wd hd;replace hd:St _ _ wd _:=hd;(first|apply Ld.sl c9;rfl;exact hd.blkC 1 rfl rfl|apply Ld.st c9;rfl;exact hd.blkR 1 rfl;rfl));rfl|(with_reducible apply t4 c9);rfl;rfl;rfl;rfl;omega;rfl|(first|(with_reducible apply v6);(iterate 4 rfl);rfl|(with_reducible apply n9);rfl;rfl;rfl;rfl))|(with_reducible apply m6);rfl;rfl;rfl;refine ⟨_,fun wd hd=>hroo _ (hK0.now hd),?_⟩|(with_reducible apply g8);rfl;(intro wd hd;replace hd:St _ _ wd _:=hd;(apply Ld.sl c9;rfl;exact (hspV hd).cel hrowS rfl));rfl|(with_reducible apply m6);rfl;rfl;rfl;refine ⟨_,fun wd hd=>htot _ _ hd,?_⟩));all_goals ((with_reducible apply i9);intro w' hS';clear hS;have hS:=hS';clear hS')))
   repeat' (first|(with_reducible apply d5 c9);rfl;rfl;rfl|(with_reducible apply s5 c9);rfl;rfl;exact (rfl:_=some [_,_,_,_,_]);rfl|refine yDn (by with_reducible constructor) ?_|((with_reducible apply i4);rfl;first|rfl|assumption)|(with_reducible apply d7 hS c9 (i:=0));(iterate 8 rfl);exact (rfl:_=[_,_,_,_,_]);clear hS;intro w' hS;simp only [List.set] at hS)
   (apply a2e;repeat (first|exact ResL.nil|apply ResL.tmp;rfl|apply ResL.cell;rfl;(apply Ld.st c9;rfl;exact hS.blkR 0 rfl;rfl)))
   exact hno hS (by omega)
  rw [xe7 h5] at hRE;have hd2:decide ((sl.length:Int) < R + T)=false:=xj4 h5
  repeat' (first|(with_reducible apply d5 c9);rfl;rfl;rfl|(with_reducible apply d6);rfl;(first|apply Ld.sl c9;rfl;exact hS.blkC 1 rfl rfl|apply Ld.st c9;rfl;exact hS.blkR 1 rfl;rfl);rfl|refine yDn (by with_reducible constructor) ?_|(with_reducible apply j8);(iterate 4 rfl);rfl|(with_reducible apply i6);rfl;rfl;rfl;rfl|(with_reducible apply i5);rfl;assumption|(with_reducible apply j6 hS);rfl;rfl;rfl;clear hS;intro g w' hS|(with_reducible apply f7 hS c9);rfl;rfl;rfl;clear hS;intro g w' hS|(with_reducible apply f8 hS);rfl;rfl;rfl;refine ⟨_,hli _ (hK0.now hS),?_⟩;clear hS;intro w' hS)
  (focus ((with_reducible apply f5 _ _ _ (by kernel_rfl) (by kernel_rfl) hS);(repeat' (first|(first|(with_reducible apply a3m);rfl;rfl;omega;omega;rfl|(with_reducible apply f9 c9);rfl;rfl|(with_reducible apply g8);rfl;(intro wd hd;replace hd:St _ _ wd _:=hd;(first|apply Ld.sl c9;rfl;exact hd.blkC 1 rfl rfl|apply Ld.st c9;rfl;exact hd.blkR 1 rfl;rfl));rfl|(with_reducible apply t4 c9);rfl;rfl;rfl;rfl;omega;rfl|(first|(with_reducible apply v6);(iterate 4 rfl);rfl|(with_reducible apply n9);rfl;rfl;rfl;rfl))|(with_reducible apply m6);rfl;rfl;rfl;refine ⟨_,fun wd hd=>hroo _ (hK0.now hd),?_⟩|(with_reducible apply g8);rfl;(intro wd hd;replace hd:St _ _ wd _:=hd;(apply Ld.sl c9;rfl;exact (hspV hd).cel hrowS rfl));rfl|(with_reducible apply m6);rfl;rfl;rfl;refine ⟨_,fun wd hd=>htot _ _ hd,?_⟩));all_goals ((with_reducible apply i9);intro w' hS';clear hS;have hS:=hS';clear hS')))
  repeat' (first|(with_reducible apply d5 c9);rfl;rfl;rfl|(with_reducible apply d6);rfl;(apply Ld.st c9;rfl;exact hS.blkR 1 rfl;rfl);rfl|refine yDn (by with_reducible constructor) ?_|first|((with_reducible apply i5);rfl;first|rfl|assumption)|(with_reducible apply a0g);rfl;rfl;rfl;refine ⟨_,hown _ (hK0.now hS) hr,?_⟩;rintro _ w2 ⟨k2,rfl,hk2,h2⟩)
  replace h2:=h2.perm (a4k k2);replace hS:=hS.trans h2;clear h2 hroo htot hli;have hV2:=KerV.own hS;replace hS:=hS.perm xi7;dsimp only [List.cons_append,List.nil_append] at hS;have hsp2:k2.sp.length=sps.length:=by rw [<- hlS,<- hk2];exact (xh8 _).symm
  obtain ⟨sh2,fr2,sl2,sp2,hand2,vsh2,vfr2,vsl2,vsp2⟩:=k2;dsimp only at hsp2;obtain ⟨q1,d1,rfl⟩:∃ p c,vsh2=.slice p sh2.length c:=hV2.sh.sl.len;obtain ⟨q2,d2,rfl⟩:∃ p c,vfr2=.slice p fr2.length c:=hV2.fr.len;obtain ⟨q3,d3,rfl⟩:∃ p c,vsl2=.slice p sl2.length c:=hV2.sl.len;obtain ⟨q4,d4,rfl⟩:∃ p c,vsp2=.slice p sp2.length c:=hV2.sp.len
  repeat' (first|(with_reducible apply d5 c9);rfl;rfl;rfl|(with_reducible apply d6);rfl;(apply Ld.st c9;rfl;exact hS.blkR 2 rfl;rfl);rfl|refine yDn (by with_reducible constructor) ?_|(with_reducible apply f7 hS c9);rfl;rfl;rfl;clear hS;intro g w' hS|(with_reducible apply d7 hS c9 (i:=0));(iterate 8 rfl);exact (rfl:_=[_,_,_,_,_]);clear hS;intro w' hS;simp only [List.set] at hS|(with_reducible apply a0g);rfl;rfl;rfl;refine ⟨_,hown _ (hK0.now hS) hr,?_⟩;rintro _ w3 ⟨k3,rfl,hk3,h3⟩)
  replace h3:=h3.perm (a4k k3);replace hS:=hS.trans h3;clear h3 hown;have hV3:=KerV.own hS;obtain ⟨y,hy,hys⟩:∃ y,k3.sp[sp]?=some y/\y.s=x.s:=by
   have hsp3:k3.sp.length=sps.length:=by rw [<- hlS,<- hk3];exact (xh8 _).symm
   obtain ⟨y,hy⟩:=i3 (l:=k3.sp) (i:=sp) (by omega);have h:=a1r hy;rw [hk3,hsc0] at h;exact ⟨y,hy,(Option.some.inj h).symm⟩
  have hyl:=d8 hy;have hrowY:=f6 (f:=spC) hy;obtain ⟨b3,o3,e3,hv3⟩:=hV3.sp.form1 hy;have hspY:=hV3.sp;have hvY:=hV3.spv y (xc8 hy);obtain ⟨pe,ce,hye⟩:=hvY.en.len;obtain ⟨py,cy,hya⟩:=hvY.ar.len;rw [hys] at hye hya;have hEnY:t5 y=.row 82 3 (.slice pe x.s.entries.length ce) (x.s.entries.map enC):=by
   unfold t5;rw [hye,hys]
  have hArY:a1z y=.row 136 4 (.slice py x.s.areas.length cy) (x.s.areas.map arC):=by
   unfold a1z;rw [hya,hys]
  rw [hv3] at hspY |-;unfold spC at hrowY;rw [hye,hya,hys] at hrowY
  repeat' (first|(with_reducible apply d5 c9);rfl;rfl;rfl|(with_reducible apply l3 c9);rfl;rfl;rfl;rfl;omega;rfl|refine yDn (by with_reducible constructor) ?_|(with_reducible apply f7 hS c9);rfl;rfl;rfl;clear hS;intro g w' hS|(with_reducible apply d7 hS c9 (i:=0));(iterate 8 rfl);exact (rfl:_=[_,_,_]);clear hS;intro w' hS;simp only [List.set] at hS|(with_reducible apply a09 c9);rfl;rfl;rfl;refine ⟨_,hspY.rng hrowY,rfl,?_⟩)
  replace hS:=hS.sub (b0H hy);rw [hEnY,hArY] at hS;unfold frA slA a14 at hS;dsimp only at hS;have hs4:sps.length<=4:=by omega
  rename Nat=>g9
  repeat' (first|(with_reducible apply d5 c9);rfl;rfl;rfl|(with_reducible apply d6);rfl;(first|apply Ld.sl c9;rfl;exact hS.blkC 3 rfl rfl|apply Ld.st c9;rfl;exact hS.blkR 0 rfl;rfl);rfl|refine yDn (by with_reducible constructor) ?_|(with_reducible apply a0Q hS c9);(iterate 7 rfl);clear hS;intro g w' hS|(with_reducible apply d7 hS c9 (i:=4));(iterate 8 rfl);exact (rfl:_=[_,_,_,_,_]);clear hS;intro w' hS;simp only [List.set] at hS|(with_reducible apply a46 hS c9 9);(iterate 4 rfl);exact hS.rowRo 0 rfl;rfl;(simp only [xh8,xb0,xa2,xe5];omega);rfl;intro p' cap' w' hS';simp only [List.set] at hS';clear hS;have hS:=hS';clear hS')
  simp only [xh8] at hS;replace hS:=hS.reorderT 10 [7,8,1,2,3,4,5,6,9] (by decide) rfl;simp only [y8,xh9,xi0] at hS;have hr2:Right (KV.K ⟨sh2,fr2,sl2,sp2,hand2,.slice q1 sh2.length d1,.slice q2 fr2.length d2,.slice q3 sl2.length d3,.slice q4 sp2.length d4⟩):=by rw [hk2];exact hr
  have hnf:3<=fr2.length:=by have h1:=hr2.cnt.1;have h9:(KV.K ⟨sh2,fr2,sl2,sp2,hand2,.slice q1 sh2.length d1,.slice q2 fr2.length d2,.slice q3 sl2.length d3,.slice q4 sp2.length d4⟩).frames.length=fr2.length:=rfl;omega
  obtain ⟨gf,rfl⟩:=hS.rowSome 0 rfl (by omega);obtain ⟨z,hz,hzs⟩:∃ z,sp2[sp]?=some z/\z.s=x.s:=by
   obtain ⟨z,hz⟩:=i3 (l:=sp2) (i:=sp) (by omega);have h:(KV.K (⟨sh2,fr2,sl2,sp2,hand2,.slice q1 sh2.length d1,.slice (some ⟨gf,0,none⟩) fr2.length d2,.slice q3 sl2.length d3,.slice q4 sp2.length d4⟩:KV)).spaces[sp]?=some z.s:=a1r hz;rw [hk2,hsc0] at h;exact ⟨z,hz,(Option.some.inj h).symm⟩
  obtain ⟨hrb1,hrb2⟩:=a1U hr2;have hfold:=fun i=>a4A (k:=(⟨sh2,fr2,sl2,sp2,hand2,.slice q1 sh2.length d1,.slice (some ⟨gf,0,none⟩) fr2.length d2,.slice q3 sl2.length d3,.slice q4 sp2.length d4⟩:KV)) (b:=100000) ⟨hrb1,hrb2⟩ (by omega) (x.s.entries.take i);have hel2:x.s.entries.length<=255:=by omega
  refine k9 (F:=nF) (w0:=w) (X:=Nat) (fun i=>[(10,.int .i64 (i:Nat))]) [1,2,4,8,9] rfl (fun i=>[.row 84 4 (.slice (some ⟨gf,0,none⟩) fr2.length d2) (((x.s.entries.take i).foldl r6 (⟨sh2,fr2,sl2,sp2,hand2,.slice q1 sh2.length d1,.slice (some ⟨gf,0,none⟩) fr2.length d2,.slice q3 sl2.length d3,.slice q4 sp2.length d4⟩:KV)).fr.map fmC),.row 88 2 (.slice q3 sl2.length d3) (((x.s.entries.take i).foldl r6 (⟨sh2,fr2,sl2,sp2,hand2,.slice q1 sh2.length d1,.slice (some ⟨gf,0,none⟩) fr2.length d2,.slice q3 sl2.length d3,.slice q4 sp2.length d4⟩:KV)).sl.map swC)]) (fun i=>i<=x.s.entries.length) (fun i=>x.s.entries.length - i) 0 (by exact Fr.sub_of rfl) (xf8 _) hS ?_;clear hS;intro i w4 hi hS;dsimp only [List.cons_append,List.nil_append] at hS |-;obtain ⟨hsm,hrf⟩:=hfold i;by_cases hlt:i < x.s.entries.length
  ·have hdl:decide ((i:Int) < (x.s.entries.length:Int))=true:=xj1 (by omega);obtain ⟨e,he2⟩:=i3 (l:=x.s.entries) (i:=i) (by omega);obtain ⟨ge,rfl⟩:=hS.rowSome 3 rfl (by omega);have hrowE:=f6 (f:=enC) he2;unfold enC at hrowE;have hnx:=a3b he2 (⟨sh2,fr2,sl2,sp2,hand2,.slice q1 sh2.length d1,.slice (some ⟨gf,0,none⟩) fr2.length d2,.slice q3 sl2.length d3,.slice q4 sp2.length d4⟩:KV);obtain ⟨hnm,-,-⟩:=a4n hr2 hz (by rw [hzs];exact xc8 he2);obtain ⟨epg,ekd,eat⟩:=e;dsimp only at hnm hrowE;have hln:(x.s.entries.take i).length<=255:=by rw [xa1];omega
   rcases hnm with ⟨hk,j,hj,hjl⟩|⟨hk,j,hj,hjl⟩
   ·subst hj;have hdk:decide (ekd=1)=true:=xj1 hk;have hjl':j < fr2.length:=hjl;obtain ⟨f1,hf1⟩:=i3 (l:=((x.s.entries.take i).foldl r6 (⟨sh2,fr2,sl2,sp2,hand2,.slice q1 sh2.length d1,.slice (some ⟨gf,0,none⟩) fr2.length d2,.slice q3 sl2.length d3,.slice q4 sp2.length d4⟩:KV)).fr) (i:=j) (by rw [hsm.nfr];exact xk2.2 hjl');have hrb:=hrf.1 f1 (xc8 hf1);have hrowF:=f6 (f:=fmC) hf1;unfold fmC at hrowF;have hn1:((x.s.entries.take (i + 1)).foldl r6 (⟨sh2,fr2,sl2,sp2,hand2,.slice q1 sh2.length d1,.slice (some ⟨gf,0,none⟩) fr2.length d2,.slice q3 sl2.length d3,.slice q4 sp2.length d4⟩:KV)).fr=((x.s.entries.take i).foldl r6 (⟨sh2,fr2,sl2,sp2,hand2,.slice q1 sh2.length d1,.slice (some ⟨gf,0,none⟩) fr2.length d2,.slice q3 sl2.length d3,.slice q4 sp2.length d4⟩:KV)).fr.set j (a4Y f1):=by
     rw [hnx,(a6k hk).1,xh2,a1q hf1]
    have hn2:((x.s.entries.take (i + 1)).foldl r6 (⟨sh2,fr2,sl2,sp2,hand2,.slice q1 sh2.length d1,.slice (some ⟨gf,0,none⟩) fr2.length d2,.slice q3 sl2.length d3,.slice q4 sp2.length d4⟩:KV)).sl=((x.s.entries.take i).foldl r6 (⟨sh2,fr2,sl2,sp2,hand2,.slice q1 sh2.length d1,.slice (some ⟨gf,0,none⟩) fr2.length d2,.slice q3 sl2.length d3,.slice q4 sp2.length d4⟩:KV)).sl:=by
     rw [hnx,(a6k hk).2]
    generalize hFR:((x.s.entries.take i).foldl r6 (⟨sh2,fr2,sl2,sp2,hand2,.slice q1 sh2.length d1,.slice (some ⟨gf,0,none⟩) fr2.length d2,.slice q3 sl2.length d3,.slice q4 sp2.length d4⟩:KV)).fr=FR at *;generalize hSL:((x.s.entries.take i).foldl r6 (⟨sh2,fr2,sl2,sp2,hand2,.slice q1 sh2.length d1,.slice (some ⟨gf,0,none⟩) fr2.length d2,.slice q3 sl2.length d3,.slice q4 sp2.length d4⟩:KV)).sl=SL at *;have e1:(FR.map fmC).set j (n8 [.string ⟨f1.data.toArray⟩,.int .i64 f1.refs,.bool f1.dirty,.bool f1.seen] 1 [.int .i64 (f1.refs + 1)])=(FR.set j (a4Y f1)).map fmC:=by rw [xj2];rfl
    repeat' (first|(with_reducible apply d5 c9);rfl;rfl;rfl|(with_reducible apply d6);rfl;(first|apply Ld.sc c9;rfl;exact hS.rowCj 3 rfl (by assumption) rfl|apply Ld.sl c9;rfl;exact hS.blkC 2 rfl rfl);rfl|(with_reducible apply l3 c9);rfl;rfl;rfl;rfl;omega;rfl|refine yDn (by with_reducible constructor) ?_|(with_reducible apply i4);rfl;assumption)
    (focus ((with_reducible apply a0Z _ _ _ 14 (by kernel_rfl) (by kernel_rfl) hS);(simp only [xi4,xi5,xh9,xi0]);(repeat' ((first|(with_reducible apply a3m);rfl;rfl;omega;omega;rfl|(with_reducible apply f9 c9);rfl;rfl|(with_reducible apply g8);rfl;(intro wd hd;replace hd:St _ _ wd _:=hd;(first|apply Ld.sc c9;rfl;(first|exact hd.rowCj 0 rfl (by assumption) rfl|exact hd.rowCj 3 rfl (by assumption) rfl)|apply Ld.sl c9;rfl;(first|exact hd.blkC 2 rfl rfl|exact hd.blkC 5 rfl rfl)));rfl|(with_reducible apply t4 c9);rfl;rfl;rfl;rfl;omega;rfl)));all_goals ((with_reducible apply i9);intro w' hS';clear hS;have hS:=hS';clear hS')))
    repeat' (first|(with_reducible apply d5 c9);rfl;rfl;rfl|(with_reducible apply j0);rfl;rfl;omega;omega;rfl|refine yDn (by with_reducible constructor) ?_|(with_reducible apply t2 hS c9 (i:=0));(iterate 4 rfl);assumption;(iterate 5 rfl);intro w' hS';simp only [List.set] at hS';clear hS;have hS:=hS';clear hS')
    rw [e1] at hS;refine g0 (i + 1) (by exact Fr.sub_of rfl) (by omega) ?_ (by omega);dsimp only [List.cons_append,List.nil_append];rw [hn1,hn2];exact hS
   ·subst hj;have hdk:decide (ekd=1)=false:=xj4 hk;have hjl':j < sl2.length:=hjl;obtain ⟨f1,hf1⟩:=i3 (l:=((x.s.entries.take i).foldl r6 (⟨sh2,fr2,sl2,sp2,hand2,.slice q1 sh2.length d1,.slice (some ⟨gf,0,none⟩) fr2.length d2,.slice q3 sl2.length d3,.slice q4 sp2.length d4⟩:KV)).sl) (i:=j) (by rw [hsm.nsl];exact xk2.2 hjl');have hrb:=hrf.2 f1 (xc8 hf1);have hrowF:=f6 (f:=swC) hf1;unfold swC at hrowF;have hn1:((x.s.entries.take (i + 1)).foldl r6 (⟨sh2,fr2,sl2,sp2,hand2,.slice q1 sh2.length d1,.slice (some ⟨gf,0,none⟩) fr2.length d2,.slice q3 sl2.length d3,.slice q4 sp2.length d4⟩:KV)).sl=((x.s.entries.take i).foldl r6 (⟨sh2,fr2,sl2,sp2,hand2,.slice q1 sh2.length d1,.slice (some ⟨gf,0,none⟩) fr2.length d2,.slice q3 sl2.length d3,.slice q4 sp2.length d4⟩:KV)).sl.set j (a4B f1):=by
     rw [hnx,(a6w hk).1,xh2,a1i hf1]
    have hn2:((x.s.entries.take (i + 1)).foldl r6 (⟨sh2,fr2,sl2,sp2,hand2,.slice q1 sh2.length d1,.slice (some ⟨gf,0,none⟩) fr2.length d2,.slice q3 sl2.length d3,.slice q4 sp2.length d4⟩:KV)).fr=((x.s.entries.take i).foldl r6 (⟨sh2,fr2,sl2,sp2,hand2,.slice q1 sh2.length d1,.slice (some ⟨gf,0,none⟩) fr2.length d2,.slice q3 sl2.length d3,.slice q4 sp2.length d4⟩:KV)).fr:=by
     rw [hnx,(a6w hk).2]
    generalize hFR:((x.s.entries.take i).foldl r6 (⟨sh2,fr2,sl2,sp2,hand2,.slice q1 sh2.length d1,.slice (some ⟨gf,0,none⟩) fr2.length d2,.slice q3 sl2.length d3,.slice q4 sp2.length d4⟩:KV)).fr=FR at *;generalize hSL:((x.s.entries.take i).foldl r6 (⟨sh2,fr2,sl2,sp2,hand2,.slice q1 sh2.length d1,.slice (some ⟨gf,0,none⟩) fr2.length d2,.slice q3 sl2.length d3,.slice q4 sp2.length d4⟩:KV)).sl=SL at *;have e1:(SL.map swC).set j (n8 [.string ⟨f1.data.toArray⟩,.int .i64 f1.refs] 1 [.int .i64 (f1.refs + 1)])=(SL.set j (a4B f1)).map swC:=by rw [xj2];rfl
    obtain ⟨gs,rfl⟩:=hS.rowSome 1 rfl (by omega)
    repeat' (first|(with_reducible apply d5 c9);rfl;rfl;rfl|(with_reducible apply d6);rfl;(first|apply Ld.sc c9;rfl;exact hS.rowCj 3 rfl (by assumption) rfl|apply Ld.sl c9;rfl;exact hS.blkC 2 rfl rfl);rfl|(with_reducible apply l3 c9);rfl;rfl;rfl;rfl;omega;rfl|refine yDn (by with_reducible constructor) ?_|(with_reducible apply i4);rfl;assumption|(with_reducible apply i5);rfl;assumption)
    (focus ((with_reducible apply a0Z _ _ _ 14 (by kernel_rfl) (by kernel_rfl) hS);(simp only [xi4,xi5,xh9,xi0]);(repeat' ((first|(with_reducible apply a3m);rfl;rfl;omega;omega;rfl|(with_reducible apply f9 c9);rfl;rfl|(with_reducible apply g8);rfl;(intro wd hd;replace hd:St _ _ wd _:=hd;(first|apply Ld.sc c9;rfl;(first|exact hd.rowCj 1 rfl (by assumption) rfl|exact hd.rowCj 3 rfl (by assumption) rfl)|apply Ld.sl c9;rfl;(first|exact hd.blkC 2 rfl rfl|exact hd.blkC 5 rfl rfl)));rfl|(with_reducible apply t4 c9);rfl;rfl;rfl;rfl;omega;rfl)));all_goals ((with_reducible apply i9);intro w' hS';clear hS;have hS:=hS';clear hS')))
    repeat' (first|(with_reducible apply d5 c9);rfl;rfl;rfl|(with_reducible apply j0);rfl;rfl;omega;omega;rfl|refine yDn (by with_reducible constructor) ?_|(with_reducible apply t2 hS c9 (i:=1));(iterate 4 rfl);assumption;(iterate 5 rfl);intro w' hS';simp only [List.set] at hS';clear hS;have hS:=hS';clear hS')
    rw [e1] at hS;refine g0 (i + 1) (by exact Fr.sub_of rfl) (by omega) ?_ (by omega);dsimp only [List.cons_append,List.nil_append];rw [hn1,hn2];exact hS
  ·have hdl:decide ((i:Int) < (x.s.entries.length:Int))=false:=xj4 (by omega);obtain rfl:i=x.s.entries.length:=by omega
   rw [xg0] at hS hsm hrf
   repeat' (first|(with_reducible apply d5 c9);rfl;rfl;rfl|(with_reducible apply d6);rfl;(apply Ld.sl c9;rfl;exact hS.blkC 2 rfl rfl);rfl|refine yDn (by with_reducible constructor) ?_|(with_reducible apply i5);rfl;assumption)
   replace hS:=hS.reorderT 9 [5,7,6,0,1,2,3,4,8] (by decide) rfl;simp only [y8,xh9,xi0] at hS;obtain ⟨FRs,hFRs⟩:∃ F,F=(x.s.entries.foldl r6 (⟨sh2,fr2,sl2,sp2,hand2,.slice q1 sh2.length d1,.slice (some ⟨gf,0,none⟩) fr2.length d2,.slice q3 sl2.length d3,.slice q4 sp2.length d4⟩:KV)).fr:=⟨_,rfl⟩;obtain ⟨SLs,hSLs⟩:∃ F,F=(x.s.entries.foldl r6 (⟨sh2,fr2,sl2,sp2,hand2,.slice q1 sh2.length d1,.slice (some ⟨gf,0,none⟩) fr2.length d2,.slice q3 sl2.length d3,.slice q4 sp2.length d4⟩:KV)).sl:=⟨_,rfl⟩;rw [<- hFRs,<- hSLs] at hS;refine a6p 2 7 rfl hS (by kernel_rfl) ?_;intro w6 hS';clear hS;have hS:=hS';clear hS';simp only [xi4,xi5];have hH:=hS.sub (.cons_cons _ (.cons_cons _ (xi9 _)))
   ((with_reducible apply a4e (nn 0));rfl;kernel_rfl;kernel_rfl;kernel_rfl;exact (fun _ _ _ h=>h);exact hH;rfl;(intro wd hd;replace hd:St _ _ wd _:=hd;(apply Ld.st c9;rfl;exact (hd.blkRk 0 0 5 rfl);rfl));rfl)
   ((with_reducible apply k8 (nn 1) c9);rfl;kernel_rfl;exact (fun _ _ _ h=>h);exact hH;rfl;rfl)
   ((with_reducible apply t7 (nn 2));rfl;kernel_rfl;exact (fun _ _ _ h=>h);exact hH;rfl;(intro wd hd;replace hd:St _ _ wd _:=hd;(apply Ld.sl c9;rfl;exact hd.blkC 1 rfl rfl));rfl)
   ((with_reducible apply k8 (nn 3) c9);rfl;kernel_rfl;exact (fun _ _ _ h=>h);exact hH;rfl;rfl)
   refine o7 (i:=4) (by kernel_rfl) ?_;simp only [xi4,xi5,xi0];refine s7 (Φ:=fun _ w'=>St _ _ w' _) rfl (o4 hS c9 (i:=2) rfl rfl rfl rfl rfl (xf5 rfl) (xc6.1 rfl)) ?_;intro _ w' hS';simp only [List.set] at hS';clear hS;have hS:=hS';clear hS';refine ⟨hS.sub (.cons_cons _ (.cons_cons _ (xi9 _))),?_⟩;have hH:=hS.sub (.cons_cons _ (.cons_cons _ (xi9 _)))
   ((with_reducible apply k8 (nn 5) c9);rfl;kernel_rfl;exact (fun _ _ _ h=>h);exact hH;rfl;rfl)
   ((with_reducible apply k8 (nn 6) c9);rfl;kernel_rfl;exact (fun _ _ _ h=>h);exact hH;rfl;rfl)
   refine w8 (by kernel_rfl) ?_
   repeat' ((refine yDn (by with_reducible constructor) ?_))
   (apply a2e;repeat (first|exact ResL.nil|apply ResL.tmp;rfl|apply ResL.cell;rfl;(apply Ld.st c9;rfl;exact hS.blkR 2 rfl;rfl)))
   have hxe:x5 (KV.K (⟨sh2,fr2,sl2,sp2,hand2,.slice q1 sh2.length d1,.slice (some ⟨gf,0,none⟩) fr2.length d2,.slice q3 sl2.length d3,.slice q4 sp2.length d4⟩:KV)) sp=x.s.entries:=by unfold x5;rw [a0v (a1r hz),hzs]
   refine ⟨⟨sh2,FRs,SLs,sp2++[⟨x.s,.slice py x.s.areas.length cy,.slice pe x.s.entries.length ce⟩],hand2,.slice q1 sh2.length d1,.slice (some ⟨gf,0,none⟩) fr2.length d2,.slice q3 sl2.length d3,.slice p' (sp2.length + 1) cap'⟩,?_,?_,xd1 ?_⟩
   ·rw [hRE,xe6 rfl];rfl
   ·rw [hRE,xe6 rfl,<- hk2];unfold a6U;rw [hxe,<- a50,a0v (a1r hz),hzs,hFRs,hSLs];generalize List.foldl r6 _ x.s.entries=kf at hsm |-;obtain ⟨a1,a2,a3,a4,a5,a6,a7,a8,a9⟩:=kf;obtain ⟨b1,b2,b3,-,-,-,-,-,-⟩:=hsm;dsimp only at b1 b2 b3;subst b1 b2 b3;unfold KV.K;dsimp only;rw [xi2];rfl
   ·replace hS:=hS.reorderT 9 [7,6,3,4,8] (by decide) rfl;simp only [y8,xh9,xi0] at hS;unfold a32 frA slA a14 v7;unfold v7 at hS;dsimp only at hS |-;rw [xi2,xi2,xi2];exact hS.perm a5G
 ·have hd:decide (t9 K space=0)=false:=xj4 he;rw [xe7 he] at hRE;rw [<- hRE] at he hd hli
  repeat' (first|(with_reducible apply d5 c9);rfl;rfl;rfl|(with_reducible apply d6);rfl;(apply Ld.st c9;rfl;exact hS.blkR 1 rfl;rfl);rfl|refine yDn (by with_reducible constructor) ?_|(with_reducible apply t6);(iterate 4 rfl);assumption;rfl|(with_reducible apply g6);rfl;assumption;rfl;rfl|(with_reducible apply i5);rfl;rfl|(with_reducible apply j6 hS);rfl;rfl;rfl;clear hS;intro g w' hS|(with_reducible apply f7 hS c9);rfl;rfl;rfl;clear hS;intro g w' hS|(with_reducible apply f8 hS);rfl;rfl;rfl;refine ⟨_,hli _ (hK0.now hS),?_⟩;clear hS;intro w' hS)
  (focus ((with_reducible apply f5 _ _ _ (by kernel_rfl) (by kernel_rfl) hS);(repeat' ((first|(with_reducible apply f9 c9);rfl;rfl|(first|(with_reducible apply a1e);(iterate 4 rfl);assumption;rfl|(with_reducible apply l9);rfl;assumption;rfl;rfl))));all_goals ((with_reducible apply i9);intro w' hS';clear hS;have hS:=hS';clear hS')))
  repeat' (first|(with_reducible apply d5 c9);rfl;rfl;rfl|(with_reducible apply s5 c9);rfl;rfl;exact (rfl:_=some [_,_,_,_,_]);rfl|refine yDn (by with_reducible constructor) ?_|(with_reducible apply i5);rfl;rfl|(with_reducible apply d7 hS c9 (i:=0));(iterate 8 rfl);exact (rfl:_=[_,_,_,_,_]);clear hS;intro w' hS;simp only [List.set] at hS|(with_reducible apply a0z);rfl;all_goals (intro hb hp;try (exfalso;omega)))
  (apply a2e;repeat (first|exact ResL.nil|apply ResL.tmp;rfl|apply ResL.cell;rfl;(apply Ld.st c9;rfl;exact hS.blkR 0 rfl;rfl)))
  exact hno hS he
inductive Rs (α:Type) where
 |ok (a:α)
 |no (p:String)
inductive SA where
 |blk (L:List Value)
 |row (e sz:Nat) (rows:List (List Value)) (cap:Nat) (u:Bool)
 |smap (t:Nat) (es:List (Value×Value))
 |siter (l:List UInt8) (pos:Nat)
abbrev SH:=List (Nat×SA)
noncomputable def ifB {α:Type} (b:Bool) (x y:α):α:=@Bool.rec (fun _=>α) y x b
noncomputable def l5 {α:Type} (l:List (Nat×α)) (i:Nat):Option α:=@List.rec (Nat×α) (fun _=>Option α) none (fun p _ ih=>@Bool.rec (fun _=>Option α) ih (some p.2) (Nat.beq p.1 i)) l
noncomputable def a2D {α:Type} (l:List α):Nat->Option α:=@List.rec α (fun _=>Nat->Option α) (fun _=>none) (fun p _ ih i=>@Nat.rec (fun _=>Option α) (some p) (fun i _=>ih i) i) l
inductive BT (α:Type) where
 |nil
 |node (k:Nat) (v:α) (l r:BT α)
noncomputable def BT.get {α:Type} (t:BT α) (i:Nat):Option α:=@BT.rec α (fun _=>Option α) none (fun k v _ _ l r=>@Bool.rec (fun _=>Option α) (@Bool.rec (fun _=>Option α) r l (Nat.blt i k)) (some v) (Nat.beq i k)) t
noncomputable def a15 (H:SH) (i:Nat) (t:SA):SH:=@List.rec (Nat×SA) (fun _=>SH) [] (fun p r ih=>@Bool.rec (fun _=>SH) (p::ih) ((p.1,t)::r) (Nat.beq p.1 i)) H
noncomputable def a0i {α:Type} (l:List (Nat×α)) (i:Nat):List (Nat×α):=@List.rec (Nat×α) (fun _=>List (Nat×α)) [] (fun p _ ih=>@Bool.rec (fun _=>List (Nat×α)) (p::ih) ih (Nat.beq p.1 i)) l
noncomputable def a1g (H:SH) (i:Nat) (t:SA):SH:=@List.rec (Nat×SA) (fun _=>SH) [(i,t)] (fun p r ih=>@Bool.rec (fun _=>SH) (p::ih) ((i,t)::p::r) (Nat.blt p.1 i)) H
def cOk:Value->Bool
 |.bool _|.int _ _|.string _|.pointer none|.slice none _ _|.map none|.nilFunc|.nilIface=>true
 |_=>false
noncomputable def sEv (E:Fr):Operand->Option Value
 |.tmp t=>l5 E t
 |.const v=>ifB (cOk v) (some v) none
 |.func f=>some (.func (.func f) #[] #[])
 |.global _=>none
noncomputable def a9Q (E:Fr) (l:List Operand):Option (List Value):=@List.rec Operand (fun _=>Option (List Value)) (some []) (fun x _ ih=>match sEv E x,ih with
  |some v,some vs=>some (v::vs)
  |_,_=>none) l
noncomputable def b0W (E:Fr) (l:List (Nat×Operand)):Option (List (Nat×Value)):=@List.rec (Nat×Operand) (fun _=>Option (List (Nat×Value))) (some []) (fun x _ ih=>match sEv E x.2,ih with
  |some v,some vs=>some ((x.1,v)::vs)
  |_,_=>none) l
noncomputable def a5x (k:IntKind) (n:Int):Int:=match k,n with
 |.i64,.ofNat m=>ifB (Nat.blt m 9223372036854775808) (.ofNat m) (IntKind.i64.wrap (.ofNat m))
 |k,n=>k.wrap n
def a8E (f:(n:Nat)->BitVec n->BitVec n->BitVec n) (k:IntKind) (m n:Int):Value:=.int k (k.wrap (f k.bits (BitVec.ofInt k.bits m) (BitVec.ofInt k.bits n)).toNat)
noncomputable def a8g (op:BinOp) (k:IntKind) (m n:Int):Option Value:=match op with
 |.add=>some (.int k (a5x k (m + n)))
 |.sub=>some (.int k (a5x k (m - n)))
 |.mul=>some (.int k (a5x k (m * n)))
 |.quo=>ifB (decide (n=0)) none (some (.int k (a5x k (m.tdiv n))))
 |.rem=>ifB (decide (n=0)) none (some (.int k (m.tmod n)))
 |.and=>some (a8E (fun _ a b=>a &&& b) k m n)
 |.or=>some (a8E (fun _ a b=>a|||b) k m n)
 |.xor=>some (a8E (fun _ a b=>a ^^^ b) k m n)
 |.lss=>some (.bool (decide (m < n)))
 |.leq=>some (.bool (decide (m<=n)))
 |.gtr=>some (.bool (decide (n < m)))
 |.geq=>some (.bool (decide (n<=m)))
 |.eql=>some (.bool (decide (m=n)))
 |.neq=>some (.bool (!decide (m=n)))
 |_=>none
noncomputable def a9r (op:BinOp) (k k':IntKind) (m n:Int):Option Value:=match op with
 |.shl=>ifB (decide (n < 0)) none (some (.int k (k.wrap (m * 2 ^ min n.toNat k.bits))))
 |.shr=>ifB (decide (n < 0)) none (some (.int k (m.fdiv (2 ^ min n.toNat k.bits))))
 |op=>ifB (kb k k') (a8g op k m n) none
def sEqS:List Nat->List Value->List Value->Option Bool
 |[],[],[]=>some true
 |0::s,.int .i64 a::l,.int .i64 b::r=>(sEqS s l r).map (decide (a=b) && ·)
 |1::s,.string ⟨⟨a⟩⟩::l,.string ⟨⟨b⟩⟩::r=>(sEqS s l r).map (decide (a=b) && ·)
 |2::s,.bool a::l,.bool b::r=>(sEqS s l r).map (decide (a=b) && ·)
 |_,_,_=>none
abbrev EqT:=List (Nat×List Nat)
abbrev TT:=BT TI
noncomputable def b3d (op:BinOp) (l l':List UInt8):Option Value:=match op with
 |.eql=>some (.bool (decide (l=l')))
 |.neq=>some (.bool (!decide (l=l')))
 |.add=>ifB (Nat.ble (l.length + l'.length) 1000000) (some (.string ⟨(l++l').toArray⟩)) none
 |_=>none
noncomputable def b3k (T:TT) (op:BinOp) (t:TypeId) (a b:Bool):Option Value:=match T.get t,op with
 |some (.sc .bool _ _),.eql=>some (.bool (decide (a=b)))
 |some (.sc .bool _ _),.neq=>some (.bool (!decide (a=b)))
 |_,_=>none
noncomputable def b3p (q:EqT) (op:BinOp) (t:TypeId) (l l':List Value):Option Value:=match l5 q t with
 |some s=>match sEqS s l l',op with
  |some b,.eql=>some (.bool b)
  |some b,.neq=>some (.bool (!b))
  |_,_=>none
 |none=>none
noncomputable def b3l (T:TT) (op:BinOp) (t:TypeId) (p:Option Addr):Option Value:=match T.get t,op with
 |some (.sl _ _ _ _ _),.eql=>some (.bool p.isNone)
 |_,_=>none
noncomputable def b3r (T:TT) (op:BinOp) (t:TypeId) (p:Option Addr):Option Value:=match T.get t,op with
 |some (.sc (.pointer _) _ _),.eql=>some (.bool p.isNone)
 |_,_=>none
noncomputable def b42 (T:TT) (q:EqT) (op:BinOp) (t:TypeId):Value->Value->Option Value
 |.int k m,.int k' n=>a9r op k k' m n
 |.string ⟨⟨l⟩⟩,.string ⟨⟨l'⟩⟩=>b3d op l l'
 |.bool a,.bool b=>b3k T op t a b
 |.slice p _ _,.slice none 0 0=>b3l T op t p
 |.pointer p,.pointer none=>b3r T op t p
 |.agg ⟨l⟩,.agg ⟨l'⟩=>b3p q op t l l'
 |_,_=>none
noncomputable def b1G (E:Fr) (c a b:Operand):Option Value:=match sEv E c with
 |some (.bool true)=>sEv E a
 |some (.bool false)=>sEv E b
 |_=>none
noncomputable def b4d (E:Fr) (x:Operand):Option Value:=match sEv E x with
 |some (.pointer (some p))=>some (.pointer (some p))
 |_=>none
noncomputable def sFA (T:TT) (E:Fr) (s:TypeId) (x:Operand) (f:Nat):Option Value:=match T.get s,sEv E x with
 |some (.st _ fs _),some (.pointer (some ⟨g,k,none⟩))=>match a2D fs f with
  |some (o,_,_)=>some (.pointer (some ⟨g,k + o,none⟩))
  |none=>none
 |_,_=>none
noncomputable def b4q (E:Fr) (x:Operand) (i:Nat):Option Value:=match sEv E x with
 |some (.tuple vs)=>a2D vs.toList i
 |_=>none
noncomputable def b3A (E:Fr) (op:UnOp) (x:Operand):Option Value:=match op,sEv E x with
 |.not,some (.bool b)=>some (.bool (!b))
 |_,_=>none
noncomputable def sBO (T:TT) (q:EqT) (E:Fr) (op:BinOp) (t:TypeId) (x y:Operand):Option Value:=match sEv E x,sEv E y with
 |some u,some v=>b42 T q op t u v
 |_,_=>none
noncomputable def sMF (E:Fr) (fn:Go.Fn) (a b:Array Operand):Option Value:=match a9Q E a.toList,a9Q E b.toList with
 |some us,some vs=>some (.func fn us.toArray vs.toArray)
 |_,_=>none
noncomputable def sCv (T:TT) (E:Fr) (src dst:TypeId) (x:Operand):Option Value:=match T.get src,T.get dst,sEv E x with
 |some _,some (.sc (.int k) _ _),some (.int _ n)=>some (.int k (k.wrap n))
 |some _,some (.sc .string _ _),some (.string s)=>some (.string s)
 |_,_,_=>none
noncomputable def b4M (T:TT) (t:TypeId) (v:Value):Option Value:=match T.get t,v with
 |some (.sl _ _ _ _ _),.slice _ n _=>some (.int .i64 n)
 |some (.sc .string _ _),.string ⟨⟨l⟩⟩=>some (.int .i64 l.length)
 |_,_=>none
noncomputable def b4G (T:TT) (t:TypeId) (v:Value):Option Value:=match T.get t,v with
 |some (.sl _ _ _ _ _),.slice none _ c=>some (.int .i64 c)
 |_,_=>none
noncomputable def b4F (T:TT) (E:Fr) (b:Builtin) (args:List Operand) (ats:List TypeId):Option Value:=match b,args,ats with
 |.len,[x],[t]=>match sEv E x with
  |some v=>b4M T t v
  |none=>none
 |.cap,[x],[t]=>match sEv E x with
  |some v=>b4G T t v
  |none=>none
 |.min,[x,y],_=>match sEv E x,sEv E y with
  |some (.int .i64 m),some (.int .i64 k)=>some (.int .i64 (min m k))
  |_,_=>none
 |_,_,_=>none
noncomputable def sCP (T:TT) (E:Fr) (c:Call):Option Value:=match c.callee with
 |.builtin b=>b4F T E b c.args.toList c.argTypes.toList
 |_=>none
noncomputable def b4o (T:TT) (E:Fr) (s:TypeId) (x:Operand) (f:Nat):Option Value:=match T.get s,sEv E x with
 |some (.st _ fs _),some (.agg c)=>match a2D fs f with
  |some (o,n,true)=>some (.agg ((c.toList.drop o).take n).toArray)
  |some (o,_,false)=>a2D c.toList o
  |none=>none
 |_,_=>none
noncomputable def b4g (T:TT) (E:Fr) (t:TypeId) (parts:Array (Nat×Operand)):Option Value:=match T.get t,b0W E parts.toList with
 |some (.st _ fs z),some ps=>(a0S (fun i=>(a2D fs i).map fun f=>(f.1,f.2.1)) z ps).map fun L=>.agg L.toArray
 |_,_=>none
noncomputable def sIA (T:TT) (E:Fr) (t:TypeId) (x y:Operand):Option Value:=match T.get t,sEv E x,sEv E y with
 |some (.sl _ sz _ _ _),some (.slice (some ⟨b,off,none⟩) m _),some (.int .i64 (.ofNat i))=>ifB (Nat.blt i m) (some (.pointer (some ⟨b,off + i * sz,none⟩))) none
 |some (.ar _ len sz _ _),some (.pointer (some ⟨b,off,none⟩)),some (.int .i64 (.ofNat i))=>ifB (Nat.blt i len) (some (.pointer (some ⟨b,off + i * sz,none⟩))) none
 |_,_,_=>none
noncomputable def sIx (T:TT) (E:Fr) (t:TypeId) (x y:Operand):Option Value:=match T.get t,sEv E x,sEv E y with
 |some (.sc .string _ _),some (.string ⟨⟨l⟩⟩),some (.int .i64 (.ofNat i))=>(a2D l i).map fun c=>.int .u8 c.toNat
 |_,_,_=>none
noncomputable def sBd:Option Value->Nat->Nat->Option Nat
 |none,z,_=>some z
 |some (.int _ (.ofNat i)),_,y=>ifB (Nat.ble i y) (some i) none
 |_,_,_=>none
noncomputable def b13 (E:Fr):Option Operand->Option (Option Value)
 |none=>some none
 |some x=>(sEv E x).map some
noncomputable def b0v (E:Fr) (lo hi:Option Operand) (len cap:Nat):Option (Nat×Nat):=match b13 E lo,b13 E hi with
 |some lo,some hi=>match sBd hi len cap with
  |some h=>match sBd lo 0 h with
   |some a=>some (a,h)
   |none=>none
  |none=>none
 |_,_=>none
noncomputable def sSl (T:TT) (E:Fr) (t:TypeId) (x:Operand) (lo hi mx:Option Operand):Option Value:=match mx,T.get t,sEv E x with
 |none,some (.sc .string _ _),some (.string ⟨⟨l⟩⟩)=>match b0v E lo hi l.length l.length with
  |some (a,h)=>some (.string ⟨((l.drop a).take (h - a)).toArray⟩)
  |none=>none
 |none,some (.sl _ sz _ _ _),some (.slice (some ⟨b,off,none⟩) m c)=>match b0v E lo hi m c with
  |some (a,h)=>ifB (Nat.beq a 0||Nat.blt a c) (some (.slice (some ⟨b,off + a * sz,none⟩) (h - a) (c - a))) none
  |none=>none
 |none,some (.sl _ _ _ _ _),some (.slice none m c)=>match b0v E lo hi m c with
  |some (a,h)=>some (.slice none (h - a) (c - a))
  |none=>none
 |_,_,_=>none
noncomputable def a8C (T:TT) (q:EqT) (E:Fr):Op->Option Value
 |.move x=>sEv E x
 |.assign x=>sEv E x
 |.pick c a b=>b1G E c a b
 |.nilCheck x=>b4d E x
 |.fieldAddr s x f=>sFA T E s x f
 |.extract x i=>b4q E x i
 |.unOp op _ x=>b3A E op x
 |.binOp op t x y _=>sBO T q E op t x y
 |.makeFunc fn a b=>sMF E fn a b
 |.convert src dst x=>sCv T E src dst x
 |.call c=>sCP T E c
 |.field s x f=>b4o T E s x f
 |.build t parts=>b4g T E t parts
 |.indexAddr t x y=>sIA T E t x y
 |.index t x y=>sIx T E t x y
 |.slice t x lo hi mx=>sSl T E t x lo hi mx
 |_=>none
noncomputable def m8 (H:SH) (i o n:Nat):Option (List Value):=match l5 H i with
 |some (.blk L)=>ifB (Nat.ble (o + n) L.length) (some ((L.drop o).take n)) none
 |some (.row _ sz rows _ _)=>match a2D rows (o / sz) with
  |some r=>ifB (Nat.ble (o % sz + n) r.length) (some ((r.drop (o % sz)).take n)) none
  |none=>none
 |_=>none
noncomputable def a4W (T:TT) (H:SH) (t:TypeId):Value->Option Value
 |.pointer (some ⟨i,o,none⟩)=>match T.get t with
  |some (.sc _ _ _)|some (.sl _ _ _ _ _)=>match m8 H i o 1 with
   |some [v]=>some v
   |_=>none
  |some (.st s _ _)|some (.ar s _ _ _ _)=>(m8 H i o s).map fun L=>.agg L.toArray
  |none=>none
 |_=>none
noncomputable def b4z (H:SH) (i o s:Nat) (c:List Value):Option SH:=ifB (Nat.beq c.length s && c.all (·.oneCell')) (match l5 H i with
 |some (.blk L)=>ifB (Nat.ble (o + s) L.length) (some (a15 H i (.blk (n8 L o c)))) none
 |some (.row e sz rows cap u)=>match a2D rows (o / sz) with
  |some r=>ifB (Nat.ble (o % sz + s) sz) (some (a15 H i (.row e sz (rows.set (o / sz) (n8 r (o % sz) c)) cap u))) none
  |none=>none
 |_=>none) none
noncomputable def a7S (T:TT) (H:SH) (t:TypeId) (v:Value):Value->Option SH
 |.pointer (some ⟨i,o,none⟩)=>match T.get t,celL v with
  |some ti,some c=>b4z H i o ti.size c
  |_,_=>none
 |_=>none
noncomputable def a2F (H:SH) (sz:Nat):Value->Option (List (List Value))
 |.slice none 0 _=>some []
 |.slice (some _) 0 _=>some []
 |.slice (some ⟨i,o,none⟩) m _=>match l5 H i with
  |some (.row _ sz' rows _ _)=>ifB (Nat.beq sz sz' && (Nat.beq (o % sz) 0 && Nat.ble (o / sz + m) rows.length)) (some ((rows.drop (o / sz)).take m)) none
  |_=>none
 |_=>none
noncomputable def a6l:List (List Value)->Option (List UInt8)
 |[]=>some []
 |[.int .u8 (.ofNat n)]::r=>ifB (Nat.blt n 256) ((a6l r).map (UInt8.ofNat n::·)) none
 |_=>none
abbrev OpR:=Option (Option Value×SH×Nat)
noncomputable def b1B (H:SH) (n e sz:Nat) (rows:List (List Value)):OpR:=some (some (.slice (some ⟨n,0,none⟩) rows.length rows.length),a1g H n (.row e sz rows rows.length true),n + 1)
noncomputable def b3b (H:SH) (n e sz m c:Nat) (news:List (List Value)) (i:Nat):OpR:=match l5 H i with
 |some (.row e' sz' rows cap u)=>ifB (Nat.beq e e' && Nat.beq sz sz')
   (ifB (Nat.beq m rows.length && Nat.beq c cap) (b1B (a0i H i) n e sz (rows++news))
    (ifB (Nat.ble (m + news.length) rows.length && Nat.ble (m + news.length) c) (some (some (.slice (some ⟨i,0,none⟩) (m + news.length) c),a15 H i (.row e sz (a02 rows news m) cap u),n)) none)) none
 |_=>none
noncomputable def a8Z (H:SH) (n e sz eb:Nat) (news:List (List Value)):Value->OpR
 |.slice p m c=>match news with
  |[]=>ifB (Nat.ble m c) (some (some (.slice p m c),H,n)) none
  |_::_=>ifB (Nat.ble ((m + news.length) * (eb + 1)) 1000000) (match p with
   |none=>ifB (Nat.beq m 0 && Nat.beq c 0) (b1B H n e sz news) none
   |some ⟨i,0,none⟩=>b3b H n e sz m c news i
   |_=>none) none
 |_=>none
noncomputable def b3i (H:SH) (n e sz eb q:Nat) (z:List Value):Value->OpR
 |.slice none 0 0=>ifB (Nat.blt 0 q && (Nat.ble (q * (eb + 1)) 1000000 && z.all (·.oneCell'))) (b1B H n e sz (List.replicate q z)) none
 |_=>none
noncomputable def a70 (T:TT) (H:SH) (n:Nat) (t t':TypeId) (s u:Value):OpR:=match T.get t with
 |some (.sl e sz eb _ z)=>ifB (Nat.beq t t') (match a2F H sz u with
   |some news=>a8Z H n e sz eb news s
   |none=>none) (match T.get t',u with
   |some (.sc (.int .i64) _ _),.int .i64 (.ofNat q)=>b3i H n e sz eb q z s
   |_,_=>none)
 |_=>none
noncomputable def b1L (T:TT) (H:SH) (t:TypeId) (v:Value):Option (Nat×Nat×Nat×List UInt8×Bool):=match T.get t,v with
 |some (.sl e 1 1 false [.int .u8 (.ofNat 0)]),.slice (some ⟨i,0,none⟩) m c=>match l5 H i with
  |some (.row e' 1 rows cap u)=>ifB (Nat.beq e e' && (Nat.beq m rows.length && Nat.beq c cap)) ((a6l rows).map fun l=>(i,e,cap,l,u)) none
  |_=>none
 |_,_=>none
noncomputable def b0s (T:TT) (H:SH) (n:Nat) (t:TypeId) (s u:Value):OpR:=match b1L T H t s,u with
 |some (i,e,cap,old,ub),.string ⟨⟨l⟩⟩=>some (some (.int .i64 (l.take old.length).length),a15 H i (.row e 1 (bR (l.take old.length++old.drop (l.take old.length).length)) cap ub),n)
 |_,_=>none
noncomputable def b1N (H:SH) (n:Nat) (t:TypeId) (v:Value):OpR:=match v with
 |.map (some i)=>match l5 H i with
  |some (.smap t' es)=>ifB (Nat.beq t t') (some (some (.int .i64 es.length),H,n)) none
  |_=>none
 |_=>none
noncomputable def b3x (T:TT) (E:Fr) (H:SH) (n:Nat) (b:Builtin) (args:List Operand) (ats:List TypeId):OpR:=match b,args,ats with
 |.append,[x,y],[t,t']=>match sEv E x,sEv E y with
  |some s,some u=>a70 T H n t t' s u
  |_,_=>none
 |.copy,[x,y],[t,_]=>match sEv E x,sEv E y with
  |some s,some u=>b0s T H n t s u
  |_,_=>none
 |.len,[x],[t]=>match sEv E x with
  |some v=>b1N H n t v
  |none=>none
 |_,_,_=>none
noncomputable def b2N:Value->Value->Option Bool
 |.int .i64 a,.int .i64 b=>some (decide (a=b))
 |.string ⟨⟨a⟩⟩,.string ⟨⟨b⟩⟩=>some (decide (a=b))
 |_,_=>none
noncomputable def a26 (k:Value):List (Value×Value)->Option (Option Value)
 |[]=>some none
 |(x,v)::r=>match b2N k x with
  |some true=>some (some v)
  |some false=>a26 k r
  |none=>none
noncomputable def a9e (k v:Value):List (Value×Value)->List (Value×Value)
 |[]=>[(k,v)]
 |(x,u)::r=>match b2N k x with
  |some true=>(k,v)::r
  |_=>(x,u)::a9e k v r
noncomputable def sKO (T:TT) (t:TypeId) (k:Value):Bool:=match T.get t with
 |some (.sc (.map K _) _ _)=>match T.get K,k with
  |some (.sc (.int .i64) _ _),.int .i64 _=>true
  |some (.sc .string _ _),.string _=>true
  |_,_=>false
 |_=>false
noncomputable def a6I (T:TT) (H:SH) (t:TypeId) (i:Nat) (k:Value):Option (List (Value×Value)):=match l5 H i with
 |some (.smap t' es)=>ifB (Nat.beq t t' && sKO T t k) (some es) none
 |_=>none
noncomputable def b1k (T:TT) (ez:List (Nat×Value)) (H:SH) (n:Nat) (t:TypeId) (ok:Bool) (m k:Value):OpR:=match m with
 |.map (some i)=>match a6I T H t i k with
  |some es=>match a26 k es with
   |some (some v)=>some (some (ifB ok (.tuple #[v,.bool true]) v),H,n)
   |some none=>(l5 ez t).map fun z=>(some (ifB ok (.tuple #[z,.bool false]) z),H,n)
   |none=>none
  |none=>none
 |_=>none
noncomputable def b3P (T:TT) (H:SH) (n:Nat) (t:TypeId) (m k v:Value):OpR:=match m with
 |.map (some i)=>match a6I T H t i k with
  |some es=>match a26 k es with
   |some _=>some (none,a15 H i (.smap t (a9e k v es)),n)
   |none=>none
  |none=>none
 |_=>none
noncomputable def b3V (T:TT) (E:Fr) (H:SH) (n:Nat) (src dst:TypeId) (x:Operand):OpR:=match T.get dst,sEv E x with
 |some (.sc .string _ _),some v=>match b1L T H src v with
  |some (_,e,_,l,_)=>match T.get e with
   |some (.sc (.int .u8) 1 (.int .u8 (.ofNat 0)))=>ifB (Nat.blt 0 l.length) (some (some (.string ⟨l.toArray⟩),H,n)) none
   |_=>none
  |none=>none
 |_,_=>none
noncomputable def sBS (T:TT) (E:Fr) (H:SH) (n:Nat) (t:TypeId) (len:Nat) (parts:Array (Nat×Operand)):OpR:=match T.get t,b0W E parts.toList with
 |some (.sl e sz _ _ _),some ps=>match a2g 0 sz ps with
  |some rows=>ifB (Nat.beq rows.length len && (Nat.ble (len * sz) 16777216 && a2U rows)) (some (some (.slice (some ⟨n,0,none⟩) len len),a1g H n (.row e sz rows len false),n + 1)) none
  |none=>none
 |_,_=>none
noncomputable def sMk (T:TT) (E:Fr) (H:SH) (n:Nat) (t:TypeId) (x y:Operand):OpR:=match T.get t,sEv E x,sEv E y with
 |some (.sl e sz eb _ z),some (.int .i64 (.ofNat i)),some (.int .i64 (.ofNat j))=>ifB (Nat.beq i j && (Nat.ble (i * (eb + 1)) 1000000 && z.all (·.oneCell'))) (some (some (.slice (some ⟨n,0,none⟩) i i),a1g H n (.row e sz (List.replicate i z) i false),n + 1)) none
 |_,_,_=>none
noncomputable def b3Y (T:TT) (E:Fr) (H:SH) (n:Nat) (t:TypeId) (x:Operand) (lo hi mx:Option Operand):OpR:=match T.get t,sEv E x,b13 E lo,hi,mx with
 |some (.sl _ _ _ _ _),some (.slice (some ⟨_,_,none⟩) m _),some (some (.int .i64 (.ofNat i))),none,none=>ifB (Nat.ble i m) (some (none,H,n)) none
 |_,_,_,_,_=>none
noncomputable def b1Y (E:Fr) (H:SH) (n:Nat) (x:Operand):OpR:=match sEv E x with
 |some (.pointer (some ⟨i,0,none⟩))=>match l5 H i with
  |some (.siter l k)=>match a2D l k with
   |some b=>ifB (Nat.blt b.toNat 128) (some (some (.tuple #[.bool true,.int .i64 k,.int .i32 b.toNat]),a15 H i (.siter l (k + 1)),n)) none
   |none=>some (some (.tuple #[.bool false]),H,n)
  |_=>none
 |_=>none
noncomputable def b3u (H:SH) (n:Nat) (s:SA):OpR:=some (some (.pointer (some ⟨n,0,none⟩)),a1g H n s,n + 1)
noncomputable def sOp (T:TT) (ez:List (Nat×Value)) (E:Fr) (H:SH) (n:Nat):Op->OpR
 |.load t x=>match sEv E x with
  |some p=>(a4W T H t p).map fun v=>(some v,H,n)
  |none=>none
 |.store t x y=>match sEv E x,sEv E y with
  |some p,some v=>(a7S T H t v p).map fun H'=>(none,H',n)
  |_,_=>none
 |.box _ x=>match sEv E x with
  |some v=>match celL v with
   |some L=>b3u H n (.blk L)
   |none=>none
  |none=>none
 |.alloc t=>match T.get t with
  |some ti=>b3u H n (.blk ti.zeroCells)
  |none=>none
 |.buildSlice t len parts=>sBS T E H n t len parts
 |.makeSlice t x y=>sMk T E H n t x y
 |.call c=>match c.callee with
  |.builtin b=>b3x T E H n b c.args.toList c.argTypes.toList
  |_=>none
 |.convert src dst x=>b3V T E H n src dst x
 |.makeMap t none=>match T.get t with
  |some (.sc (.map K _) _ _)=>match T.get K with
   |some _=>some (some (.map (some n)),a1g H n (.smap t []),n + 1)
   |none=>none
  |_=>none
 |.lookup t m x ok=>match sEv E m,sEv E x with
  |some m,some k=>b1k T ez H n t ok m k
  |_,_=>none
 |.mapUpdate t m x y=>match sEv E m,sEv E x,sEv E y with
  |some m,some k,some v=>b3P T H n t m k v
  |_,_,_=>none
 |.slice t x lo hi mx=>b3Y T E H n t x lo hi mx
 |.range t x=>match T.get t,sEv E x with
  |some (.sc .string _ _),some (.string ⟨⟨l⟩⟩)=>b3u H n (.siter l 0)
  |_,_=>none
 |.next x true=>b1Y E H n x
 |_=>none
inductive Pl where
 |nil
 |stop
 |take (i:Nat) (k:Pl)
 |one (i:Nat) (drop:List Nat) (k:Pl)
 |grp (w:Nat) (k:Pl)
 |alt (i:Nat) (drop:List Nat) (k more:Pl)
inductive SX where
 |normal
 |exit (i:Nat)
 |ret
structure Cx where
 T:TT
 q:EqT
 ez:List (Nat×Value)
 F:BT (Func×List (Nat×Pl))
 M:List (Nat×(List Value->Option Value))
abbrev a13:=List (Nat×TypeId×Value×Value)
abbrev a5f:=Nat->List Value->SH->Nat->Rs (Value×SH×Nat)
abbrev a4t:=Fr->SH->Nat->Rs (SX×Fr×SH×Nat)
noncomputable def a49 (ops:List Oper) (E:Fr) (o:Oper):Option Bool:=match o.guard with
 |none=>some true
 |some (j,b)=>match a2D ops j with
  |some oj=>match oj.dst with
   |some dj=>match l5 E dj with
    |some (.bool c)=>some (c == b)
    |some _=>some false
    |none=>none
   |none=>none
  |none=>none
noncomputable def a1I (E:Fr):Option Nat->Option Value->Fr
 |some d,some v=>(d,v)::E
 |some d,none=>a0i E d
 |none,_=>E
noncomputable def a5L (E:Fr):List Nat->Fr:=@List.rec (Nat×Value) (fun _=>List Nat->Fr) (fun _=>[]) (fun p _ ih s=>bif @List.rec Nat (fun _=>Bool) false (fun x _ h=>bif Nat.beq p.1 x then true else h) s then ih s else p::ih (p.1::s)) E
noncomputable def a4b (E:Fr):Fr:=bif Nat.blt 400 (@List.rec (Nat×Value) (fun _=>Nat) 0 (fun _ _ n=>n + 1) E) then a5L E [] else E
mutual
def vEq:Nat->Value->Value->Bool
 |0,_,_=>false
 |k + 1,a,b=>match a,b with
  |.bool a,.bool b=>a == b
  |.int j a,.int j' b=>kb j j' && decide (a=b)
  |.string ⟨⟨a⟩⟩,.string ⟨⟨b⟩⟩=>decide (a=b)
  |.pointer none,.pointer none=>true
  |.pointer (some ⟨i,o,none⟩),.pointer (some ⟨j,p,none⟩)=>Nat.beq i j && Nat.beq o p
  |.slice none m c,.slice none m' c'=>Nat.beq m m' && Nat.beq c c'
  |.slice (some ⟨i,o,none⟩) m c,.slice (some ⟨j,p,none⟩) m' c'=>Nat.beq i j && (Nat.beq o p && (Nat.beq m m' && Nat.beq c c'))
  |.map none,.map none=>true
  |.map (some i),.map (some j)=>Nat.beq i j
  |.nilFunc,.nilFunc=>true
  |.func (.func f) ⟨a⟩ ⟨b⟩,.func (.func g) ⟨c⟩ ⟨d⟩=>Nat.beq f g && (a6d k a c && a6d k b d)
  |.nilIface,.nilIface=>true
  |.agg ⟨a⟩,.agg ⟨b⟩=>a6d k a b
  |.tuple ⟨a⟩,.tuple ⟨b⟩=>a6d k a b
  |_,_=>false
def a6d:Nat->List Value->List Value->Bool
 |0,_,_=>false
 |_ + 1,[],[]=>true
 |k + 1,a::l,b::r=>vEq k a b && a6d k l r
 |_,_,_=>false
end
def a8Y:List (List Value)->List (List Value)->Bool
 |[],[]=>true
 |a::l,b::r=>a6d 1000 a b && a8Y l r
 |_,_=>false
def b2S:List (Value×Value)->List (Value×Value)->Bool
 |[],[]=>true
 |(a,c)::l,(b,d)::r=>vEq 1000 a b && (vEq 1000 c d && b2S l r)
 |_,_=>false
def b4p:SA->SA->Bool
 |.blk a,.blk b=>a6d 1000 a b
 |.row e s r c u,.row e' s' r' c' u'=>Nat.beq e e' && (Nat.beq s s' && (Nat.beq c c' && ((u == u') && a8Y r r')))
 |.smap t a,.smap t' b=>Nat.beq t t' && b2S a b
 |.siter a i,.siter b j=>Nat.beq i j && decide (a=b)
 |_,_=>false
def hEq:SH->SH->Bool
 |[],[]=>true
 |(i,a)::l,(j,b)::r=>Nat.beq i j && (b4p a b && hEq l r)
 |_,_=>false
noncomputable def a5C (E1 E2:Fr):Fr->Bool
 |[]=>true
 |(d,_)::r=>(match l5 E1 d,l5 E2 d with
  |some u,some v=>vEq 1000 u v
  |_,_=>false) && a5C E1 E2 r
noncomputable def a2n (T:TT) (H:SH):a13->Bool
 |[]=>true
 |(_,t,p,v)::r=>(match a4W T H t p with
  |some u=>vEq 1000 u v
  |none=>false) && a2n T H r
def a1G (dr:List Nat) (L:a13):a13:=L.filter fun e=>!dr.any (Nat.beq e.1)
noncomputable def a9S (T:TT) (E:Fr) (H:SH):List ResultVar->Option (List Value)
 |[]=>some []
 |.tmp t::r=>match l5 E t,a9S T E H r with
  |some v,some vs=>some (v::vs)
  |_,_=>none
 |.cell p t::r=>match l5 E p with
  |some a=>match a4W T H t a,a9S T E H r with
   |some v,some vs=>some (v::vs)
   |_,_=>none
  |none=>none
mutual
def b0F:Nat->Nat->Value->Bool
 |0,_,_=>false
 |k + 1,m,v=>match v with
  |.pointer (some a)|.slice (some a) _ _=>Nat.blt a.block m
  |.map (some i)=>Nat.blt i m
  |.func _ ⟨a⟩ ⟨b⟩=>a5S k m a && a5S k m b
  |.agg ⟨a⟩|.tuple ⟨a⟩=>a5S k m a
  |_=>true
def a5S:Nat->Nat->List Value->Bool
 |0,_,_=>false
 |_ + 1,_,[]=>true
 |k + 1,m,a::l=>b0F k m a && a5S k m l
end
def b27 (m:Nat):SA->Bool
 |.blk L=>a5S 1000 m L
 |.row _ _ rows _ _=>rows.all (a5S 1000 m)
 |.smap _ es=>es.all fun p=>b0F 1000 m p.1 && b0F 1000 m p.2
 |.siter _ _=>true
noncomputable def b24 (m:Nat) (H:SH):Nat:=@List.rec (Nat×SA) (fun _=>Nat) 0 (fun p _ ih=>bif Nat.blt p.1 m then 0 else ih + 1) H
noncomputable def a9z (m:Nat) (H:SH):SH:=@List.rec (Nat×SA) (fun _=>SH) [] (fun p _ ih=>@Bool.rec (fun _=>SH) ih (p::ih) (Nat.blt p.1 m)) H
noncomputable def gc (m:Nat) (v:Value) (H:SH):SH:=bif Nat.blt 20 (b24 m H) && (b0F 1000 m v && (a9z m H).all fun p=>b27 m p.2) then a9z m H else H
section
variable (C:Cx) (call:a5f)
noncomputable def b3D (pos:String) (E:Fr) (H:SH) (n:Nat) (f:Operand) (args:List Operand):Rs (Option Value×SH×Nat):=match sEv E f,a9Q E args with
 |some (.func (.func g) first caps),some vs=>match call g (first.toList++vs++caps.toList) H n with
  |.ok (v,r)=>.ok (some v,r)
  |.no p=>.no p
 |_,_=>.no pos
noncomputable def b2O (op:Op) (pos:String) (E:Fr) (H:SH) (n:Nat):Rs (Option Value×SH×Nat):=match a8C C.T C.q E op with
 |some v=>.ok (some v,H,n)
 |none=>match sOp C.T C.ez E H n op with
  |some r=>.ok r
  |none=>.no pos
noncomputable def a5P (op:Op) (pos:String) (E:Fr) (H:SH) (n:Nat):Rs (Option Value×SH×Nat):=match op with
 |.call c=>match c.callee with
  |.value f=>b3D call pos E H n f c.args.toList
  |_=>b2O C (.call c) pos E H n
 |op=>b2O C op pos E H n
noncomputable def a54 (ops l:List Oper):Fr->SH->Nat->Rs (Fr×SH×Nat):=@List.rec Oper (fun _=>Fr->SH->Nat->Rs (Fr×SH×Nat)) (fun E H n=>.ok (E,H,n)) (fun o _ ih E H n=>match a49 ops E o with
  |some true=>match a5P C call o.op o.pos E H n with
   |.ok (v,H',n')=>ih (a1I E o.dst v) H' n'
   |.no p=>.no p
  |some false=>ih (a1I E o.dst (some undef)) H n
  | none => .no "guard") l
abbrev XPl:=Nat->Nat->a13->Fr->SH->Nat->Rs (Fr×SH×Nat)
noncomputable def b1u (ops:List Oper) (i:Nat) (ih:XPl):XPl:=fun b z L E H n=>match a2D ops i with
 |some o=>match a49 ops E o with
  |some false=>ih b z L (a1I E o.dst (some undef)) H n
  |some true=>match o.op with
   |.load t x=>match sEv E x with
    |some a=>match a4W C.T H t a with
     |some v=>ih b z ((i,t,a,v)::L) (a1I E o.dst (some v)) H n
     |none=>.no o.pos
    |none=>.no o.pos
   |op=>match a8C C.T C.q E op with
    |some v=>ih b z L (a1I E o.dst (some v)) H n
    |none=>.no o.pos
  | none => .no "guard"
 | none => .no "take"
noncomputable def b3t (ops:List Oper) (i:Nat) (dr:List Nat) (ih:XPl):XPl:=fun b z L E H n=>match a2D ops i with
 |some o=>match a49 ops E o with
  |some w=>match (bif w then a5P C call o.op o.pos E H n else .ok (some undef,H,n)) with
   | .ok (v, H', n') => bif a2n C.T H' (a1G dr L) then ih b z (a1G dr L) (a1I E o.dst v) H' n' else .no "early"
   |.no p=>.no p
  | none => .no "guard"
 | none => .no "one"
noncomputable def b4j (ops:List Oper) (i:Nat) (dr:List Nat) (ih:XPl) (last:Bool) (more:XPl):XPl:=fun b z L E H n=>match a2D ops i with
 |some o=>match a49 ops E o with
  |some w=>match (bif w then a5P C call o.op o.pos E H (b + z * i) else .ok (some undef,H,b + z * i)) with
   |.ok (v,H',n')=>bif Nat.ble n' (b + z * (i + 1)) && a2n C.T H' (a1G dr L) then
     (bif last then ih b z (a1G dr L) (a1I E o.dst v) H' n
      else match ih b z (a1G dr L) (a1I E o.dst v) H' n,more b z L E H n with
       | .ok (E1, H1, n1), .ok (E2, H2, n2) => bif a5C E1 E2 E1 && (hEq H1 H2 && Nat.beq n1 n2) then .ok (E1, H1, n1) else .no "ways"
       |.no p,_=>.no p
       |_,.no p=>.no p)
    else .no "early"
   |.no p=>.no p
  | none => .no "guard"
 | none => .no "alt"
def Pl.isStop:Pl->Bool
 |.stop=>true
 |_=>false
noncomputable def xPl (ops : List Oper) (p : Pl) : XPl := @Pl.rec (fun _ => XPl) (fun _ _ _ E H n => .ok (E, H, n)) (fun _ _ _ _ _ _ => .no "stop") (fun i _ ih => b1u C ops i ih) (fun i dr _ ih => b3t C call ops i dr ih) (fun w _ ih _ _ L E H n => ih n w L E H (n + w * ops.length)) (fun i dr _ more ih im => b4j C call ops i dr ih more.isStop im) p
noncomputable def a8I (f : a4t) (k : Nat) : a4t := @Nat.rec (fun _ => a4t) (fun _ _ _ => .no "loop") (fun _ ih E H n => match f E H n with
 |.ok (.normal,E',H',n')=>ih (a4b E') H' n'
 |r=>r) k
def b1v:Nat:=100000
noncomputable def a3I (pl:List (Nat×Pl)) (c:Code):a4t:=@Code.rec (fun _=>a4t)
 (fun E H n=>.ok (.normal,E,H,n))
 (fun id ops draw E H n=>bif draw then (match l5 pl id with
   |some p=>match xPl C call ops.toList p n 0 [] E H n with
    |.ok (E',H',n')=>.ok (.normal,E',H',n')
    |.no p=>.no p
   | none => .no "plan") else (match a54 C call ops.toList ops.toList E H n with
   |.ok (E',H',n')=>.ok (.normal,E',H',n')
   |.no p=>.no p))
 (fun _ _ x y E H n=>match x E H n with
   |.ok (.normal,E',H',n')=>y E' H' n'
   |r=>r)
 (fun o _ _ x y E H n=>match sEv E o with
   |some (.bool true)=>x E H n
   |some (.bool false)=>y E H n
   | _ => .no "cond")
 (fun i _ x E H n=>match x E H n with
   |.ok (.exit j,E',H',n')=>bif Nat.beq j i then .ok (.normal,E',H',n') else .ok (.exit j,E',H',n')
   |r=>r)
 (fun _ x=>a8I x b1v)
 (fun _ _ _ _ _ _ _ _ _ => .no "range")
 (fun i E H n=>.ok (.exit i,E,H,n))
 (fun _ _ _ _ _ => .no "scope")
 (fun _ _ _ _ => .no "label")
 (fun _ _ _ _ => .no "goto")
 (fun E H n=>.ok (.ret,E,H,n))
 (fun _ _ _ _ => .no "refuse") c
noncomputable def b0i (g:Nat) (vs:List Value) (H:SH) (n:Nat):Rs (Value×SH×Nat):=match l5 C.M g with
 |some f=>match f vs with
  |some v=>.ok (v,H,n)
  | none => .no "summary"
 |none=>match C.F.get g with
  |some (fn,pl)=>match fn.body with
   |some c=>bif Nat.ble vs.length fn.ntmps then (match a3I C call pl c (a3R 0 vs) H n with
     | .ok (.exit _, _) => .no "exit"
     |.ok (_,E',H',n')=>match a9S C.T E' H' fn.results.toList with
      |some rs=>.ok (a2E rs,gc n (a2E rs) H',n')
      |none=>.no fn.name
     | .no p => .no p) else .no "args"
   | none => .no "body"
  | none => .no "function"
end
noncomputable def b3e (C : Cx) (k : Nat) : a5f := @Nat.rec (fun _ => a5f) (fun _ _ _ _ => .no "depth") (fun _ ih => b0i C ih) k
end Go.Proofs.YtejnpppejalhfacGreat
