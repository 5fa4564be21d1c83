/- Texts that the proof stands on, one behind the other: Lk9, Lk10, Lk11, Im2, Im3, Im4, Sc13, Im5, Im6. -/
import Derived.Test.YtejnpppejalhfabGreatPKernelStarts6
namespace Go.Proofs.YtejnpppejalhfabGreat
set_option maxRecDepth 100000
set_option maxHeartbeats 8000000
open Go.RowKit Go.Sort
theorem b7R (n:Int) (w:World):Fn Tryz.prog 96 [.int .i64 n,.int .i64 8] w (RBf (.tuple #[.string ⟨(leB n 8).toArray⟩,.int .i64 0]) w) :=
 Fn.of_rb ⟨Tryz.func96,by kernel_rfl,by kernel_rfl⟩ (a69 (b6f n 8 w (by decide) (by decide)))
theorem St.rotA {F:Nat->Prop} {w0 w:World} {Γ:List Asr} (m:Nat) (h:St F w0 w Γ):St F w0 w (Γ.drop m++Γ.take m):=by
 refine h.perm ?_
 conv=>lhs;rw [<- xm4 m Γ]
 exact xi2
abbrev LyS (go:Nat) (pa:Option Addr) (ca:Nat) (ps:Option Addr) (cs:Nat) (en:Int) (A:List Ar) (Lp:List (Sh×Value)):List Asr :=
 [.blk go [.slice pa A.length ca,.slice ps Lp.length cs,.int .i64 en],.row 81 4 (.slice pa A.length ca) (A.map arC),.row 94 3 (.slice ps Lp.length cs) (Lp.map fun p=>shC p.1 p.2)]
def a3l (p:Sh×Value):Asr:=.row 96 2 p.2 (p.1.fixes.map fxC)
def a80 (b:Bx):Sh×Value:=(⟨b.pg,b.data,b.fx⟩,b.v)
def a7F (f:Int->List Fx) (k:Int×List UInt8×List Fx):Int×List UInt8×List Fx:=(k.1,k.2.1,f k.1)
theorem b6i {bs:List Bx} {K:List (Int×List UInt8×List Fx)} {f:Int->List Fx} (hK:bs.map a2T=K.map (a7F f)):(bs.map (·.pg)=K.map (·.1))/\(∀ k ∈ K,∃ b ∈ bs,b.pg=k.1)/\(∀ b ∈ bs,∃ k ∈ K,b.pg=k.1/\b.data=k.2.1/\b.fx=f k.1):=by
 refine ⟨?_,fun k hk=>?_,fun b hb=>?_⟩
 ·have:=congrArg (List.map (·.1)) hK;rw [xl6,xl6] at this;exact this
 ·have:a7F f k ∈ bs.map a2T:=by rw [hK];exact xh0.2 ⟨k,hk,rfl⟩
  obtain ⟨b,hb,e⟩:=xh0.1 this;exact ⟨b,hb,congrArg (·.1) e⟩
 ·have:a2T b ∈ K.map (a7F f):=by rw [<- hK];exact xh0.2 ⟨b,hb,rfl⟩
  obtain ⟨k,hk,e⟩:=xh0.1 this;exact ⟨k,hk,(congrArg (·.1) e).symm,(congrArg (·.2.1) e).symm,(congrArg (·.2.2) e).symm⟩
theorem b7H {bs bs2:List Bx} {K:List (Int×List UInt8×List Fx)} {f g:Int->List Fx} {at_:Int} {s:List UInt8} (hK:bs.map a2T=K.map (a7F f)) (h2:bs2.map gK=bs.map (gF at_ s)) (hg:∀ p,g p=f p++a4B at_ s p):bs2.map a2T=K.map (a7F g):=by
 have e1:bs2.map a2T=(bs2.map gK).map (·.2):=by rw [xl6];rfl
 have e2:(bs.map (gF at_ s)).map (·.2)=(bs.map a2T).map fun k=>(k.1,k.2.1,k.2.2++a4B at_ s k.1):=by rw [xl6,xl6];rfl
 rw [e1,h2,e2,hK,xl6];apply xq2;intro k _;show (k.1,k.2.1,f k.1++a4B at_ s k.1)=a7F g k;unfold a7F;rw [hg]
theorem b7G {bs:List Bx} {K:List (Int×List UInt8×List Fx)} {f:Int->List Fx} (hK:bs.map a2T=K.map (a7F f)):(bs.map a80).map (·.1)=K.map fun k=>⟨k.1,k.2.1,f k.1⟩:=by
 have e:(bs.map a80).map (·.1)=(bs.map a2T).map fun k=>(⟨k.1,k.2.1,k.2.2⟩:Sh):=by rw [xl6,xl6];rfl
 rw [e,hK,xl6];rfl
theorem b79 {P:Program} {n:Nat} {ds:List Deferred} {E:Fr} {w:World} {X:Type} (Ef:X->Fr) (I:X->World->Prop) {x y:Code} {Q1 Q2:Exit->Act->World->Prop} (hx:WC P x (Exit.then (fun a' w'=>∃ m,Has n ds a' (Ef m)/\I m w') Q2) n ds E w) (hz:∀ m w',I m w'->WC P y Q1 n ds (Ef m) w'):WC P x (Exit.then (y.wp P Q1) Q2) n ds E w:=fun a ha=>
 Code.wp_mono (fun e a' w' q=>by
  cases e with
  |normal=>obtain ⟨m,h1,h2⟩:=q;exact hz m w' h2 a' h1
  |exit i=>exact q
  |goto l=>exact q
  |ret=>exact q
  |panic c=>exact q
  |outgrown=>exact q) (hx a ha)
theorem b7t {P:Program} {n:Nat} {ds:List Deferred} {E:Fr} {w:World} {X:Type} (Ef:X->Fr) (I:X->World->Prop) {x y z:Code} {Q1 Q2 Q3:Exit->Act->World->Prop} (hx:WC P x (Exit.then (y.wp P (Exit.then (fun a' w'=>∃ m,Has n ds a' (Ef m)/\I m w') Q2)) Q3) n ds E w) (hz:∀ m w',I m w'->WC P z Q1 n ds (Ef m) w'):WC P x (Exit.then (y.wp P (Exit.then (z.wp P Q1) Q2)) Q3) n ds E w:=fun a ha=>
 Code.wp_mono (fun e a' w' q=>by
  cases e with
  |normal=>
   refine Code.wp_mono (fun e a2 w2 q2=>?_) q
   cases e with
   |normal=>obtain ⟨m,h1,h2⟩:=q2;exact hz m w2 h2 a2 h1
   |exit i=>exact q2
   |goto l=>exact q2
   |ret=>exact q2
   |panic c=>exact q2
   |outgrown=>exact q2
  |exit i=>exact q
  |goto l=>exact q
  |ret=>exact q
  |panic c=>exact q
  |outgrown=>exact q) (hx a ha)
theorem p8 {P:Program} {n:Nat} {ds:List Deferred} {E:Fr} {w:World} {Q:Exit->Act->World->Prop} {ops:Array Oper} {d:Nat} {ty:TypeId} {pos:String} {after:Array Edge} {i:Nat} (_C:Nn i) {T:Tab} {S:World->Prop} {fuel:Nat} {li:Array Bool} (hT:TabOk P T) {t s:Nat} {fs:List (Nat×Nat×Bool)} {z L:List Value} {parts:Array (Nat×Operand)} {ps:List (Nat×Value)} (hi:ops[i]?=some ⟨some d,.build t parts,ty,pos,after,none⟩) (hs:Region.noSelect ops=true) (hf:Region.free .any ops li i=true) (hr:(Region.ready .any ops li).contains i=true)
  (hQ:∀ c (a:Act) w v,Q (.panic c) (a.put (some d) v) w->Q (.panic c) a w) (hS:S w) (ht:T.get t=some (.st s fs z)) (hp:evP E parts.toList=some ps) (hL:a2I (fun i=>(fs[i]?).map fun f=>(f.1,f.2.1)) z ps=some L) (hd:Nat.blt d n=true) (k:WA P ops Q S fuel (li.setIfInBounds i true) n ds ((d,.agg L.toArray)::E) w):WA P ops Q S (fuel + 1) li n ds E w :=
 a2h _C hi hs hf hr (fun c a w h=>hQ c a w _ h) hS (fun a ha=>a33 hT ht hp hL _ ha) hd k
theorem b3s {w:World} {x:Bx} (h:(bxB x).holds w):Ld Tryz.prog 94 ⟨x.g,0,none⟩ (.agg [.int .i64 x.pg,.string ⟨x.data.toArray⟩,.slice x.p x.fx.length x.c].toArray) w:=by
 unfold bxB at h
 apply Ld.st b8
 ·rfl
 ·exact fun j v hj=>by rw [xb1];exact a3o h hj
 ·rfl
theorem b5j {A:List Ar} {a:Ar} (h:A.length=0):a0j A a=A++[a]:=by
 obtain rfl:=List.length_eq_zero_iff.1 h;rfl
theorem a83 {A:List Ar} {k:Nat} {b:Ar} (hk:k + 1=A.length) (hb:A[k]?=some b):A.getLast?=some b:=by
 rw [List.getLast?_eq_getElem?,<- hk];exact hb
theorem b35 {A:List Ar} {a b:Ar} {k:Nat} (hk:k + 1=A.length) (hb:A[k]?=some b) (hal:b.alike a):a0j A a=A.set k { b with n:=b.n + a.n }:=by
 unfold a0j;rw [a83 hk hb];dsimp only;rw [xf0 hal];obtain ⟨o,rfl⟩:=List.getLast?_eq_some_iff.1 (a83 hk hb);rw [List.dropLast_concat];rw [xe9,xn2] at hk;obtain rfl:k=o.length:=by omega
 simp
theorem a9M {A:List Ar} {a b:Ar} {k:Nat} (hk:k + 1=A.length) (hb:A[k]?=some b) (hal:¬ b.alike a):a0j A a=A++[a]:=by
 unfold a0j;rw [a83 hk hb];dsimp only;rw [xf1 hal]
def pgN (b0:Int) (l:List Sg):Nat:=(a1b b0 l).length
theorem b37 {b0:Int} {l:List Sg} {j:Nat} {s:Sg} (h:l[j]?=some s):pgN b0 (l.take (j + 1))=pgN b0 (l.take j) + s.n.toNat:=by
 unfold pgN;rw [a7O h,xe9,a6B]
theorem b7b {F:Nat->Prop} {w0 w:World} {Γ:List Asr} {go gw da dq:Nat} {qa qs:Option Addr} {en:Int} {A:List Ar} {Lp:List (Sh×Value)} {lv:Value} {os:List Ob} {o:Ob} {b0:Int}
  (hS0:St F w0 w (LyS go qa da qs dq en A Lp++Γ)) (hc:Bs (fps (LyS go qa da qs dq en A Lp)) w ⟨gw,2,none⟩ lv) (hl:Sl (fps (LyS go qa da qs dq en A Lp)) w 7 lv (os.map obC)) (hO:∀ x ∈ os,ImF (fps (LyS go qa da qs dq en A Lp)) w x)
  (hr:∀ x ∈ os,∀ s ∈ x.im.syms,-9223372036854775808<=x.at_ + s.at_/\x.at_ + s.at_<=9223372036854775807) (ho:o ∈ os) (hat:o.at_=b0 * 16) (h0:1<=b0) (h1:b0<=100000) (hs2:o.im.segs.all a2N=true) (hch:Ch o.im.segs) (hpl:Plc o.im) (hrl:o.im.rels.length<=16) (hsl:o.im.segs.length<=6)
  (hA:AOk A) (hAl:A.length<=100000) (hLl:Lp.length<=100000) :
  Fn Tryz.prog 40 [.pointer (some ⟨gw,0,none⟩),.agg (obC o).toArray,.pointer (some ⟨go,0,none⟩)] w (fun v w'=>(a7q (obP os) o.at_ o.im.rels=false/\v=.int .i64 7/\St (fps (LyS go qa da qs dq en A Lp)) w w' [])\/(a7q (obP os) o.at_ o.im.rels=true/\v=.int .i64 0/\∃ qa' da' qs' dq' N,N.map (·.1)=shO (obP os) o.im b0/\St (fps (LyS go qa da qs dq en A Lp)) w w' (LyS go qa' da' qs' dq' en (a6f A b0 o.im.segs) (Lp++N)++N.map a3l))):=by
 refine yEn Tryz.func40 Tryz.ntmps40 (by kernel_rfl) (by kernel_rfl) rfl rfl ?_;have hS:=St.startM hS0;generalize hG:fps (LyS go qa da qs dq en A Lp)=G at hS hc hl hO |-;clear hS0 hG;have hOo:=hO o ho;obtain ⟨I,vn,vs,vy,vr,at_⟩:=o;dsimp only at hat hs2 hch hpl hrl hsl |-;subst hat;have hI:ImV w I vn vs vy vr:=hOo.now hS;have bn:=hI.needs.bound;have bs:=hI.segs.bound;have by_:=hI.syms.bound;have br:=hI.rels.bound;obtain ⟨pn,cn,rfl⟩:=hI.needs.len;obtain ⟨ps,cs,rfl⟩:=hI.segs.len;obtain ⟨py,cy,rfl⟩:=hI.syms.len;obtain ⟨pr,cr,rfl⟩:=hI.rels.len;unfold obC;simp only [LyS] at hS
 repeat' (first|(with_reducible apply b9 b8);rfl;rfl;rfl|(with_reducible apply c9);rfl;(apply Ld.st b8;rfl;exact hS.blkR 0 rfl;rfl);rfl|refine yDn (by with_reducible constructor) ?_|(with_reducible apply k9 hS);rfl;rfl;rfl;clear hS;intro g w' hS)
 obtain ⟨g4,hg4⟩:∃ g4,g4=g:=⟨_,rfl⟩;rw [<- hg4] at hS |-;clear hg4 hI;have hI:ImV _ I (.slice pn I.needs.length cn) (.slice ps I.segs.length cs) (.slice py I.syms.length cy) (.slice pr I.rels.length cr):=hOo.now hS
 ((with_reducible apply y7);rfl;rfl;exact b2w hI hs2 hch h0 h1;rfl;rintro _ w' ⟨r,es,c,bs,rfl,hM,hK,hS'⟩)
 replace hS:=(hS.trans hS').perm xi2;clear hS';simp only [List.cons_append,List.nil_append] at hS
 repeat' (first|(with_reducible apply b9 b8);rfl;rfl;rfl|(with_reducible apply c9);rfl;(apply Ld.sl b8;rfl;exact hS.blkC 0 rfl rfl);rfl|refine yDn (by with_reducible constructor) ?_)
 refine l4 (Γ:=[]) (X:=Nat×List Bx) (fun x=>[(26,.int .i64 (x.1:Nat))]) [0,2,4,7,24,25] rfl (fun x=>.blk g4 [.string ⟨I.name.toArray⟩,.slice pn I.needs.length cn,.slice ps I.segs.length cs,.slice py I.syms.length cy,.slice pr I.rels.length cr,.int .i64 I.entry,.int .i64 (b0 * 16)]::(LyS go qa da qs dq en A Lp++(.obj r (.map es c)::bxs x.2))) (fun x=>x.1<=I.rels.length/\a7q (obP os) (b0 * 16) (I.rels.take x.1)=true/\MapG (.int .i64) es (x.2.map kvB)/\x.2.map a2T=(a1b b0 I.segs).map (a7F (a55 (obP os) (b0 * 16) (I.rels.take x.1)))) (fun x=>I.rels.length - x.1) (0,bs) (by exact Fr.sub_of rfl) ⟨xi5 _,rfl,hM,?_⟩ (by simpa only [LyS,List.cons_append,List.nil_append,List.append_nil] using hS) ?_
 ·rw [hK];refine (List.map_id' _).symm.trans (xq2 fun k hk=>?_);obtain ⟨s,-,hk⟩:=xg9.1 hk;obtain ⟨m,-,rfl⟩:=a65 hk;rfl
 clear hS hM hK;have hrels:Sl G w 3 (.slice pr I.rels.length cr) (I.rels.map rlC):=hOo.rels;rintro ⟨i,bs⟩ w1 ⟨hi,hsy,hM,hK⟩ hS;dsimp only [] at hi hsy hM hK hS |-;simp only [LyS,List.cons_append,List.nil_append,List.append_nil] at hS;by_cases hlt:i < I.rels.length;rotate_left
 ·rw [xa0 (by omega)] at hsy hK
  repeat' (first|(with_reducible apply b9 b8);rfl;rfl;rfl|(with_reducible apply c9);rfl;(apply Ld.sl b8;rfl;exact hS.blkC 0 rfl rfl);rfl|refine yDn (by with_reducible constructor) ?_|(with_reducible apply d7);rfl;all_goals (intro hb hp;try (exfalso;omega)))
  refine l4 (Γ:=[]) (X:=Nat×(Option Addr×Nat)×(Option Addr×Nat)×List Ar×List (Sh×Value)) (fun x=>[(65,.int .i64 (x.1:Nat))]) [2,4,7,63,64] rfl (fun x=>.blk g4 [.string ⟨I.name.toArray⟩,.slice pn I.needs.length cn,.slice ps I.segs.length cs,.slice py I.syms.length cy,.slice pr I.rels.length cr,.int .i64 I.entry,.int .i64 (b0 * 16)]::(LyS go x.2.1.1 x.2.1.2 x.2.2.1.1 x.2.2.1.2 en x.2.2.2.1 x.2.2.2.2++(.obj r (.map es c)::bxs bs))) (fun x=>x.1<=I.segs.length/\x.2.2.2.1=a6f A b0 (I.segs.take x.1)/\x.2.2.2.2=Lp++(bs.take (pgN b0 (I.segs.take x.1))).map a80/\AOk x.2.2.2.1/\x.2.2.2.1.length<=A.length + x.1) (fun x=>I.segs.length - x.1) (0,(qa,da),(qs,dq),A,Lp) (by exact Fr.sub_of rfl) ⟨xi5 _,rfl,by simp [pgN,a1b],hA,xd4 _⟩ (by simpa only [LyS,List.cons_append,List.nil_append,List.append_nil] using hS) ?_;clear hS;rintro ⟨j,⟨qa,da⟩,⟨qs,dq⟩,A',L'⟩ w2 ⟨hj,hA',hL',hAo,hAl'⟩ hS;dsimp only [] at hj hA' hL' hAo hAl' hS |-;simp only [LyS,List.cons_append,List.nil_append,List.append_nil] at hS;have hbl:bs.length=pgN b0 I.segs:=by
   have:=congrArg List.length hK
   rwa [xh1,xh1] at this
  by_cases hjt:j < I.segs.length;rotate_left
  ·rw [xa0 (l:=I.segs) (by omega)] at hA' hL';rw [xa0 (l:=bs) (by omega)] at hL'
   repeat' (first|(with_reducible apply b9 b8);rfl;rfl;rfl|refine yDn (by with_reducible constructor) ?_|(with_reducible apply d7);rfl;all_goals (intro hb hp;try (exfalso;omega)))
   (refine j4 rfl ?_)
   refine xd3 ⟨hsy,rfl,qa,da,qs,dq,bs.map a80,b7G hK,?_⟩;rw [<- hA',<- hL'];rw [xl6];refine hS.drop.sub ?_;exact (xh5 (LyS go qa da qs dq en A' L')).append ((xp7 _ _).cons _)
  obtain ⟨s,hs⟩:=i9 (l:=I.segs) (i:=j) (by omega);have hrow:(I.segs.map sgC)[j]?=some [.int .i64 s.pg,.int .i64 s.n,.string ⟨s.data.toArray⟩,.bool s.wr,.bool s.ex]:=d9 (f:=sgC) hs;have hsegs:Sl G w 5 (.slice ps I.segs.length cs) (I.segs.map sgC):=hOo.segs;obtain ⟨b,off,rfl,hro⟩:=hsegs.atF (i:=j) hjt;obtain ⟨y1,y2,y3,y4,y5⟩:=a7S hs2 hs;have hquo:(b0 * 16).tdiv 16=b0:=Int.mul_tdiv_cancel _ (by omega)
  repeat' (first|(with_reducible apply b9 b8);rfl;rfl;rfl|(with_reducible apply c9);rfl;(first|apply Ld.sc b8;rfl;(first|exact hS.blkC 0 rfl rfl|exact hS.blkC 1 rfl rfl)|apply Ld.st b8;rfl;exact hS.roR (by assumption) (by assumption);rfl);rfl|(with_reducible apply l8 b8);rfl;rfl;rfl;rfl;omega;rfl|(with_reducible apply f9);rfl;rfl;omega;omega;rfl|refine yDn (by with_reducible constructor) ?_|(with_reducible apply d6 hS b8);rfl;rfl;rfl;clear hS;intro g w' hS|(with_reducible apply d5 hS b8 (i:=0));(iterate 8 rfl);exact (rfl:_=[_,_,_,_,_]);clear hS;intro w' hS;simp only [List.set] at hS|(with_reducible apply d7);rfl;all_goals (intro hb hp;try (exfalso;omega))|(with_reducible apply a0q);rfl;rfl;omega;omega;omega;rfl)
  rw [hquo];obtain ⟨g5,hg5⟩:∃ g5,g5=g:=⟨_,rfl⟩;rw [<- hg5] at hS |-;clear hg5;refine b79 (X:=Nat) (fun g6=>[(15,.pointer (some ⟨g5,0,none⟩)),(16,.int .i64 (b0 + s.pg)),(17,.pointer (some ⟨g6,0,none⟩)),(65,.int .i64 (j:Nat)),(2,.pointer (some ⟨go,0,none⟩)),(4,.pointer (some ⟨g4,0,none⟩)),(7,.map (some r)),(63,.slice (some ⟨b,off,none⟩) I.segs.length cs),(64,.int .i64 (I.segs.length:Nat))]) (fun g6 w'=>St G w w' (.blk g6 [.int .i64 (b0 + s.pg),.int .i64 s.n,.int .i64 (rgt s),.bool false]::.blk g5 [.int .i64 s.pg,.int .i64 s.n,.string ⟨s.data.toArray⟩,.bool s.wr,.bool s.ex]::.blk g4 [.string ⟨I.name.toArray⟩,.slice pn I.needs.length cn,.slice (some ⟨b,off,none⟩) I.segs.length cs,.slice py I.syms.length cy,.slice pr I.rels.length cr,.int .i64 I.entry,.int .i64 (b0 * 16)]::(LyS go qa da qs dq en A' L'++(.obj r (.map es c)::bxs bs)))) ?_ ?_
  ·have hrg:=fun w=>b2M s w;unfold sgC at hrg;refine a4a 8 rfl hS (by kernel_rfl) ?_;intro wh hh;clear hS;have hS:=hh;clear hh
   ((with_reducible apply g8 (nn 0) b8);rfl;kernel_rfl;exact (fun _ _ _ h=>h);exact hS;rfl;rfl)
   ((with_reducible apply g8 (nn 1) b8);rfl;kernel_rfl;exact (fun _ _ _ h=>h);exact hS;rfl;rfl)
   ((with_reducible apply n5 (nn 2));rfl;kernel_rfl;exact (fun _ _ _ h=>h);exact hS;rfl;(intro wd hd;replace hd:St _ _ wd _:=hd;(apply Ld.sc b8;rfl;exact hd.blkC 0 rfl rfl));rfl)
   ((with_reducible apply n5 (nn 3));rfl;kernel_rfl;exact (fun _ _ _ h=>h);exact hS;rfl;(intro wd hd;replace hd:St _ _ wd _:=hd;(apply Ld.st b8;rfl;exact hd.blkR 0 rfl;rfl));rfl)
   refine a17 (i:=4) (j:=6) (by kernel_rfl) ?_ ?_
   ·refine j5 rfl (x8 (first:=[]) (caps:=[]) rfl rfl (hrg _)) rfl ?_;rintro _ w' ⟨rfl,hS'⟩;replace hS:=hS.transA hS';simp only [s7] at hS;clear hS';refine ⟨hS,?_⟩
    ((with_reducible apply p8 (nn 5) b8);rfl;kernel_rfl;kernel_rfl;kernel_rfl;exact (fun _ _ _ _ h=>h);exact hS;rfl;rfl;exact (rfl:_=some [_,_,_,_]);rfl)
    refine k7 (i:=6) (by kernel_rfl) ?_;refine j5 rfl (v6 hS b8 rfl rfl) rfl ?_;rintro _ w' ⟨g,rfl,hS'⟩;clear hS;have hS:=hS';clear hS';refine ⟨hS.drop,?_⟩;refine k7 (i:=7) (by kernel_rfl) ?_;refine l9 (Φ:=fun _ w'=>St _ _ w' _) rfl (j9 hS b8 (i:=0) rfl rfl rfl rfl rfl (xg4 rfl) (xc7.1 rfl)) ?_;intro _ w' hS';simp only [List.set] at hS';clear hS;have hS:=hS';clear hS';refine ⟨hS.drop,?_⟩;refine o8 (by kernel_rfl) ?_;exact a5p g (by exact Fr.sub_of rfl) hS
   ·refine j5 rfl (v6 hS b8 rfl rfl) rfl ?_;rintro _ w' ⟨g,rfl,hS'⟩;clear hS;have hS:=hS';clear hS';refine ⟨hS.drop,?_⟩;refine k7 (i:=4) (by kernel_rfl) ?_;refine j5 rfl (x8 (first:=[]) (caps:=[]) rfl rfl (hrg _)) rfl ?_;rintro _ w' ⟨rfl,hS'⟩;replace hS:=hS.transA hS';simp only [s7] at hS;clear hS';refine ⟨hS.drop,?_⟩
    ((with_reducible apply p8 (nn 5) b8);rfl;kernel_rfl;kernel_rfl;kernel_rfl;exact (fun _ _ _ _ h=>h);exact hS.drop;rfl;rfl;exact (rfl:_=some [_,_,_,_]);rfl)
    refine k7 (i:=7) (by kernel_rfl) ?_;refine l9 (Φ:=fun _ w'=>St _ _ w' _) rfl (j9 hS b8 (i:=0) rfl rfl rfl rfl rfl (xg4 rfl) (xc7.1 rfl)) ?_;intro _ w' hS';simp only [List.set] at hS';clear hS;have hS:=hS';clear hS';refine ⟨hS.drop,?_⟩;refine o8 (by kernel_rfl) ?_;exact a5p g (by exact Fr.sub_of rfl) hS
  clear hS hro hquo;intro g6 w3 hS;simp only [LyS,List.cons_append,List.nil_append,List.append_nil] at hS
  repeat' (first|(with_reducible apply b9 b8);rfl;rfl;rfl|(with_reducible apply c9);rfl;(apply Ld.sl b8;rfl;exact hS.blkC 3 rfl rfl);rfl|refine yDn (by with_reducible constructor) ?_)
  replace hS:=St.reorderT 7 [4,3,0,1,2,5,6] hS (by decide) rfl;simp only [s7,xk3,xk4] at hS;refine b7t (X:=Option Addr×Nat×List Ar) (fun _=>[(15,.pointer (some ⟨g5,0,none⟩)),(16,.int .i64 (b0 + s.pg)),(65,.int .i64 (j:Nat)),(2,.pointer (some ⟨go,0,none⟩)),(4,.pointer (some ⟨g4,0,none⟩)),(7,.map (some r)),(63,.slice (some ⟨b,off,none⟩) I.segs.length cs),(64,.int .i64 (I.segs.length:Nat))]) (fun m w'=>m.2.2=a0j A' (a4g b0 s)/\St G w w' (.blk g5 [.int .i64 s.pg,.int .i64 s.n,.string ⟨s.data.toArray⟩,.bool s.wr,.bool s.ex]::.blk g4 [.string ⟨I.name.toArray⟩,.slice pn I.needs.length cn,.slice (some ⟨b,off,none⟩) I.segs.length cs,.slice py I.syms.length cy,.slice pr I.rels.length cr,.int .i64 I.entry,.int .i64 (b0 * 16)]::(LyS go m.1 m.2.1 qs dq en m.2.2 L'++(.obj r (.map es c)::bxs bs)))) ?_ ?_
  ·by_cases hA0:A'.length=0
   ·have hap:=b5j (a:=a4g b0 s) hA0
    (focus ((with_reducible apply e6 _ _ _ (by kernel_rfl) (by kernel_rfl) hS);(repeat' ((first|(with_reducible apply j3 b8);rfl;rfl|(first|(with_reducible apply a18);(iterate 4 rfl);(first|rfl|assumption);rfl|(with_reducible apply a0c);rfl;rfl;rfl;all_goals (intro hb hp;try (exfalso;omega))|(with_reducible apply p7);rfl;(first|rfl|assumption);rfl;rfl))));all_goals ((with_reducible apply k8);intro w' hS';clear hS;have hS:=hS';clear hS')))
    repeat' (first|refine yDn (by with_reducible constructor) ?_|(with_reducible apply f6);rfl;rfl)
    refine a3P (fun w'=>(Asr.blk go [.slice qa A'.length da,.slice qs L'.length dq,.int .i64 en]).holds w'/\(Asr.blk g6 [.int .i64 (b0 + s.pg),.int .i64 s.n,.int .i64 (rgt s),.bool false]).holds w') 10 11 rfl hS (by kernel_rfl) ?_;intro w10 hS';clear hS;have hS:=hS';clear hS';have hH:=And.intro (hS.at_ (i:=1) rfl) (hS.at_ (i:=2) rfl)
    ((with_reducible apply f7 (nn 0) b8);rfl;kernel_rfl;exact (fun _ _ _ h=>h);exact xd3 hH;rfl;rfl)
    ((with_reducible apply f7 (nn 1) b8);rfl;kernel_rfl;exact (fun _ _ _ h=>h);exact xd3 hH;rfl;rfl)
    ((with_reducible apply f7 (nn 2) b8);rfl;kernel_rfl;exact (fun _ _ _ h=>h);exact xd3 hH;rfl;rfl)
    ((with_reducible apply f7 (nn 3) b8);rfl;kernel_rfl;exact (fun _ _ _ h=>h);exact xd3 hH;rfl;rfl)
    ((with_reducible apply n6 (nn 4));rfl;kernel_rfl;kernel_rfl;rfl;exact (fun _ _ _ h=>h);exact hH;rfl;(intro w2 hw2;(apply Ld.sl b8;rfl;exact a3o hw2.1 rfl));rfl)
    ((with_reducible apply n6 (nn 5));rfl;kernel_rfl;kernel_rfl;rfl;exact (fun _ _ _ h=>h);exact hH;rfl;(intro w2 hw2;(apply Ld.st b8;rfl;(exact fun j v hj=>by rw [xb1];exact a3o hw2.2 hj);rfl));rfl)
    refine n8 (i:=6) (by kernel_rfl) ?_;refine m8 rfl (o0 hS b8 rfl rfl rfl rfl rfl rfl) rfl ?_;rintro _ w' ⟨g9,rfl,hS'⟩;clear hS;have hS:=hS';clear hS';have hH:=And.intro (hS.at_ (i:=2) rfl) (hS.at_ (i:=3) rfl);refine ⟨xd3 (xd3 hH),?_⟩;refine n8 (i:=7) (by kernel_rfl) ?_;refine m8 rfl (a0t hS b8 (i:=1) rfl rfl rfl rfl (hS.rowRo 0 rfl) rfl (by simp only [xh1];omega)) rfl ?_;rintro _ w' ⟨p',c',rfl,hS'⟩;simp only [List.set] at hS';clear hS;have hS:=hS';clear hS';have hH:=And.intro (hS.at_ (i:=2) rfl) (hS.at_ (i:=3) rfl);refine ⟨xd3 (xd3 hH),?_⟩
    ((with_reducible apply f7 (nn 8) b8);rfl;kernel_rfl;exact (fun _ _ _ h=>h);exact xd3 hH;rfl;rfl)
    ((with_reducible apply f7 (nn 9) b8);rfl;kernel_rfl;exact (fun _ _ _ h=>h);exact xd3 hH;rfl;rfl)
    refine n8 (i:=10) (by kernel_rfl) ?_;refine a0I (Φ:=fun _ w'=>St _ _ w' _) rfl (j9 hS b8 (i:=2) rfl rfl rfl rfl rfl (xg4 rfl) (by intro u hu;simp [Value.cells] at hu;subst hu;rfl)) ?_;intro _ w' hS';simp only [List.set] at hS';clear hS;have hS:=hS';clear hS';refine ⟨xd6 rfl,?_⟩;refine a1e (by kernel_rfl) ?_
    repeat' (fail)
    replace hS:=St.reorderT 8 [4,5,2,1,6,7] hS (by decide) rfl;simp only [s7,xk3,xk4] at hS;rw [xh1] at hS;refine a5p (p',c',A'++[a4g b0 s]) (by exact Fr.sub_of rfl) ⟨hap.symm,?_⟩;simp only [LyS,List.cons_append,List.nil_append,xe9,xk1,xb3,xa2,xb1];exact hS
   ·obtain ⟨k,hk⟩:∃ k,k + 1=A'.length:=⟨A'.length - 1,by omega⟩;have hix:((k:Nat):Int)=(A'.length:Int) - 1:=by omega
    have hkl:k < A'.length:=by omega
    obtain ⟨y,hy⟩:=i9 (l:=A') (i:=k) (by omega);have hrow:(A'.map arC)[k]?=some [.int .i64 y.pg,.int .i64 y.n,.int .i64 y.prot,.bool y.z]:=d9 (f:=arC) hy;obtain ⟨u1,u2,u3,u4,u5,u6⟩:=hAo y (xd0 hy);rcases hS.rowForm 0 rfl with ⟨h1,h2⟩|⟨ba,cap,h1,h2,h3⟩
    ·exfalso;simp only [Value.slice.injEq] at h1;omega
    simp only [Value.slice.injEq] at h1;obtain ⟨rfl,-,rfl⟩:=h1;clear h2 h3;by_cases e1:y.pg + y.n=b0 + s.pg
    ·have d1:decide (y.pg + y.n=b0 + s.pg)=true:=xi0 e1;by_cases e2:y.prot=rgt s
     ·have d2:decide (y.prot=rgt s)=true:=xi0 e2;have hap:=b35 (a:=a4g b0 s) hk hy ⟨e1,e2,u1⟩
      (focus ((with_reducible apply e6 _ _ _ (by kernel_rfl) (by kernel_rfl) hS);(repeat' ((first|(with_reducible apply a12);rfl;rfl;omega;omega;rfl|(with_reducible apply a1G);rfl;rfl;omega;omega;rfl|(with_reducible apply j3 b8);rfl;rfl|(with_reducible apply j0);rfl;(intro wd hd;replace hd:St _ _ wd _:=hd;(first|apply Ld.sc b8;rfl;(first|exact hd.blkC 2 rfl rfl|exact hd.rowC0 0 rfl (by assumption) rfl|exact hd.rowCj 0 rfl (by assumption) rfl)|apply Ld.sl b8;rfl;exact hd.blkC 1 rfl rfl));rfl|(with_reducible apply a0s b8);rfl;rfl;rfl;assumption;omega;rfl|(first|(with_reducible apply a0g);(iterate 4 rfl);assumption|(with_reducible apply a0c);rfl;rfl;rfl;all_goals (intro hb hp;try (exfalso;omega))|(with_reducible apply p9);rfl;assumption;rfl;rfl))));all_goals ((with_reducible apply k8);intro w' hS';clear hS;have hS:=hS';clear hS')))
      repeat' (first|refine yDn (by with_reducible constructor) ?_|(with_reducible apply e8);rfl;assumption)
      (focus ((with_reducible apply a1f _ _ _ 14 (by kernel_rfl) (by kernel_rfl) hS);(simp only [xh3,xh4,xk3,xk4]);(repeat' ((first|(with_reducible apply a12);rfl;rfl;omega;omega;rfl|(with_reducible apply a1G);rfl;rfl;omega;omega;rfl|(with_reducible apply j3 b8);rfl;rfl|(with_reducible apply j0);rfl;(intro wd hd;replace hd:St _ _ wd _:=hd;(first|apply Ld.sc b8;rfl;(first|exact hd.blkC 3 rfl rfl|exact hd.rowCj 0 rfl (by assumption) rfl)|apply Ld.sl b8;rfl;exact hd.blkC 1 rfl rfl));rfl|(with_reducible apply a0s b8);rfl;rfl;rfl;assumption;omega;rfl)));all_goals ((with_reducible apply k8);intro w' hS';clear hS;have hS:=hS';clear hS')))
      repeat' (first|refine yDn (by with_reducible constructor) ?_|(with_reducible apply a0D hS b8 (i:=0));(iterate 4 rfl);assumption;(iterate 5 rfl);intro w' hS';simp only [List.set] at hS';clear hS;have hS:=hS';clear hS')
      replace hS:=St.reorderT 7 [3,4,1,0,5,6] hS (by decide) rfl;simp only [s7,xk3,xk4] at hS;refine a5p (some ⟨ba,0,none⟩,da,A'.set k { y with n:=y.n + s.n }) (by exact Fr.sub_of rfl) ⟨hap.symm,?_⟩;simp only [LyS,List.cons_append,List.nil_append,xa8,xm7];exact hS
     ·have d2:decide (y.prot=rgt s)=false:=xh9 e2;have hap:=a9M (a:=a4g b0 s) hk hy (fun h=>e2 h.2.1)
      (focus ((with_reducible apply e6 _ _ _ (by kernel_rfl) (by kernel_rfl) hS);(repeat' ((first|(with_reducible apply a12);rfl;rfl;omega;omega;rfl|(with_reducible apply a1G);rfl;rfl;omega;omega;rfl|(with_reducible apply j3 b8);rfl;rfl|(with_reducible apply j0);rfl;(intro wd hd;replace hd:St _ _ wd _:=hd;(first|apply Ld.sc b8;rfl;(first|exact hd.blkC 2 rfl rfl|exact hd.rowC0 0 rfl (by assumption) rfl|exact hd.rowCj 0 rfl (by assumption) rfl)|apply Ld.sl b8;rfl;exact hd.blkC 1 rfl rfl));rfl|(with_reducible apply a0s b8);rfl;rfl;rfl;assumption;omega;rfl|(first|(with_reducible apply a0g);(iterate 4 rfl);assumption|(with_reducible apply a0c);rfl;rfl;rfl;all_goals (intro hb hp;try (exfalso;omega))|(with_reducible apply p9);rfl;assumption;rfl;rfl))));all_goals ((with_reducible apply k8);intro w' hS';clear hS;have hS:=hS';clear hS')))
      repeat' (first|refine yDn (by with_reducible constructor) ?_|(with_reducible apply f6);rfl;assumption)
      refine a3P (fun w'=>(Asr.blk go [.slice (some ⟨ba,0,none⟩) A'.length da,.slice qs L'.length dq,.int .i64 en]).holds w'/\(Asr.blk g6 [.int .i64 (b0 + s.pg),.int .i64 s.n,.int .i64 (rgt s),.bool false]).holds w') 10 11 rfl hS (by kernel_rfl) ?_;intro w10 hS';clear hS;have hS:=hS';clear hS';have hH:=And.intro (hS.at_ (i:=1) rfl) (hS.at_ (i:=2) rfl)
      ((with_reducible apply f7 (nn 0) b8);rfl;kernel_rfl;exact (fun _ _ _ h=>h);exact xd3 hH;rfl;rfl)
      ((with_reducible apply f7 (nn 1) b8);rfl;kernel_rfl;exact (fun _ _ _ h=>h);exact xd3 hH;rfl;rfl)
      ((with_reducible apply f7 (nn 2) b8);rfl;kernel_rfl;exact (fun _ _ _ h=>h);exact xd3 hH;rfl;rfl)
      ((with_reducible apply f7 (nn 3) b8);rfl;kernel_rfl;exact (fun _ _ _ h=>h);exact xd3 hH;rfl;rfl)
      ((with_reducible apply n6 (nn 4));rfl;kernel_rfl;kernel_rfl;rfl;exact (fun _ _ _ h=>h);exact hH;rfl;(intro w2 hw2;(apply Ld.sl b8;rfl;exact a3o hw2.1 rfl));rfl)
      ((with_reducible apply n6 (nn 5));rfl;kernel_rfl;kernel_rfl;rfl;exact (fun _ _ _ h=>h);exact hH;rfl;(intro w2 hw2;(apply Ld.st b8;rfl;(exact fun j v hj=>by rw [xb1];exact a3o hw2.2 hj);rfl));rfl)
      refine n8 (i:=6) (by kernel_rfl) ?_;refine m8 rfl (o0 hS b8 rfl rfl rfl rfl rfl rfl) rfl ?_;rintro _ w' ⟨g9,rfl,hS'⟩;clear hS;have hS:=hS';clear hS';have hH:=And.intro (hS.at_ (i:=2) rfl) (hS.at_ (i:=3) rfl);refine ⟨xd3 (xd3 hH),?_⟩;refine n8 (i:=7) (by kernel_rfl) ?_;refine m8 rfl (a0t hS b8 (i:=1) rfl rfl rfl rfl (hS.rowRo 0 rfl) rfl (by simp only [xh1];omega)) rfl ?_;rintro _ w' ⟨p',c',rfl,hS'⟩;simp only [List.set] at hS';clear hS;have hS:=hS';clear hS';have hH:=And.intro (hS.at_ (i:=2) rfl) (hS.at_ (i:=3) rfl);refine ⟨xd3 (xd3 hH),?_⟩
      ((with_reducible apply f7 (nn 8) b8);rfl;kernel_rfl;exact (fun _ _ _ h=>h);exact xd3 hH;rfl;rfl)
      ((with_reducible apply f7 (nn 9) b8);rfl;kernel_rfl;exact (fun _ _ _ h=>h);exact xd3 hH;rfl;rfl)
      refine n8 (i:=10) (by kernel_rfl) ?_;refine a0I (Φ:=fun _ w'=>St _ _ w' _) rfl (j9 hS b8 (i:=2) rfl rfl rfl rfl rfl (xg4 rfl) (by intro u hu;simp [Value.cells] at hu;subst hu;rfl)) ?_;intro _ w' hS';simp only [List.set] at hS';clear hS;have hS:=hS';clear hS';refine ⟨xd6 rfl,?_⟩;refine a1e (by kernel_rfl) ?_
      repeat' (fail)
      replace hS:=St.reorderT 8 [4,5,2,1,6,7] hS (by decide) rfl;simp only [s7,xk3,xk4] at hS;rw [xh1] at hS;refine a5p (p',c',A'++[a4g b0 s]) (by exact Fr.sub_of rfl) ⟨hap.symm,?_⟩;simp only [LyS,List.cons_append,List.nil_append,xe9,xk1,xb3,xa2,xb1];exact hS
    ·have d1:decide (y.pg + y.n=b0 + s.pg)=false:=xh9 e1;have hap:=a9M (a:=a4g b0 s) hk hy (fun h=>e1 h.1)
     (focus ((with_reducible apply e6 _ _ _ (by kernel_rfl) (by kernel_rfl) hS);(repeat' ((first|(with_reducible apply a12);rfl;rfl;omega;omega;rfl|(with_reducible apply a1G);rfl;rfl;omega;omega;rfl|(with_reducible apply j3 b8);rfl;rfl|(with_reducible apply j0);rfl;(intro wd hd;replace hd:St _ _ wd _:=hd;(first|apply Ld.sc b8;rfl;(first|exact hd.rowC0 0 rfl (by assumption) rfl|exact hd.rowCj 0 rfl (by assumption) rfl)|apply Ld.sl b8;rfl;exact hd.blkC 1 rfl rfl));rfl|(with_reducible apply a0s b8);rfl;rfl;rfl;assumption;omega;rfl|(first|(with_reducible apply a0g);(iterate 4 rfl);assumption|(with_reducible apply a18);(iterate 4 rfl);assumption;rfl|(with_reducible apply a0c);rfl;rfl;rfl;all_goals (intro hb hp;try (exfalso;omega))|(with_reducible apply p9);rfl;assumption;rfl;rfl|(with_reducible apply p7);rfl;assumption;rfl;rfl))));all_goals ((with_reducible apply k8);intro w' hS';clear hS;have hS:=hS';clear hS')))
     repeat' (first|refine yDn (by with_reducible constructor) ?_|(with_reducible apply f6);rfl;rfl)
     refine a3P (fun w'=>(Asr.blk go [.slice (some ⟨ba,0,none⟩) A'.length da,.slice qs L'.length dq,.int .i64 en]).holds w'/\(Asr.blk g6 [.int .i64 (b0 + s.pg),.int .i64 s.n,.int .i64 (rgt s),.bool false]).holds w') 10 11 rfl hS (by kernel_rfl) ?_;intro w10 hS';clear hS;have hS:=hS';clear hS';have hH:=And.intro (hS.at_ (i:=1) rfl) (hS.at_ (i:=2) rfl)
     ((with_reducible apply f7 (nn 0) b8);rfl;kernel_rfl;exact (fun _ _ _ h=>h);exact xd3 hH;rfl;rfl)
     ((with_reducible apply f7 (nn 1) b8);rfl;kernel_rfl;exact (fun _ _ _ h=>h);exact xd3 hH;rfl;rfl)
     ((with_reducible apply f7 (nn 2) b8);rfl;kernel_rfl;exact (fun _ _ _ h=>h);exact xd3 hH;rfl;rfl)
     ((with_reducible apply f7 (nn 3) b8);rfl;kernel_rfl;exact (fun _ _ _ h=>h);exact xd3 hH;rfl;rfl)
     ((with_reducible apply n6 (nn 4));rfl;kernel_rfl;kernel_rfl;rfl;exact (fun _ _ _ h=>h);exact hH;rfl;(intro w2 hw2;(apply Ld.sl b8;rfl;exact a3o hw2.1 rfl));rfl)
     ((with_reducible apply n6 (nn 5));rfl;kernel_rfl;kernel_rfl;rfl;exact (fun _ _ _ h=>h);exact hH;rfl;(intro w2 hw2;(apply Ld.st b8;rfl;(exact fun j v hj=>by rw [xb1];exact a3o hw2.2 hj);rfl));rfl)
     refine n8 (i:=6) (by kernel_rfl) ?_;refine m8 rfl (o0 hS b8 rfl rfl rfl rfl rfl rfl) rfl ?_;rintro _ w' ⟨g9,rfl,hS'⟩;clear hS;have hS:=hS';clear hS';have hH:=And.intro (hS.at_ (i:=2) rfl) (hS.at_ (i:=3) rfl);refine ⟨xd3 (xd3 hH),?_⟩;refine n8 (i:=7) (by kernel_rfl) ?_;refine m8 rfl (a0t hS b8 (i:=1) rfl rfl rfl rfl (hS.rowRo 0 rfl) rfl (by simp only [xh1];omega)) rfl ?_;rintro _ w' ⟨p',c',rfl,hS'⟩;simp only [List.set] at hS';clear hS;have hS:=hS';clear hS';have hH:=And.intro (hS.at_ (i:=2) rfl) (hS.at_ (i:=3) rfl);refine ⟨xd3 (xd3 hH),?_⟩
     ((with_reducible apply f7 (nn 8) b8);rfl;kernel_rfl;exact (fun _ _ _ h=>h);exact xd3 hH;rfl;rfl)
     ((with_reducible apply f7 (nn 9) b8);rfl;kernel_rfl;exact (fun _ _ _ h=>h);exact xd3 hH;rfl;rfl)
     refine n8 (i:=10) (by kernel_rfl) ?_;refine a0I (Φ:=fun _ w'=>St _ _ w' _) rfl (j9 hS b8 (i:=2) rfl rfl rfl rfl rfl (xg4 rfl) (by intro u hu;simp [Value.cells] at hu;subst hu;rfl)) ?_;intro _ w' hS';simp only [List.set] at hS';clear hS;have hS:=hS';clear hS';refine ⟨xd6 rfl,?_⟩;refine a1e (by kernel_rfl) ?_
     repeat' (fail)
     replace hS:=St.reorderT 8 [4,5,2,1,6,7] hS (by decide) rfl;simp only [s7,xk3,xk4] at hS;rw [xh1] at hS;refine a5p (p',c',A'++[a4g b0 s]) (by exact Fr.sub_of rfl) ⟨hap.symm,?_⟩;simp only [LyS,List.cons_append,List.nil_append,xe9,xk1,xb3,xa2,xb1];exact hS
  rintro ⟨qa',da',A2⟩ w4 ⟨hA2,hS⟩;dsimp only [] at hA2 hS |-;have hA3:A2=a6f A b0 (I.segs.take (j + 1)):=by rw [hA2,hA',b2z hs]
  have hrg:0<=rgt s/\rgt s<=3:=by unfold rgt;split <;> split <;> decide
  have hA4:AOk A2:=by
   rw [hA2];refine hAo.step ⟨rfl,?_,?_,?_,hrg⟩
   ·show 0<=b0 + s.pg;omega
   ·show 0<=s.n;omega
   ·show b0 + s.pg + s.n<=200000;omega
  have hA5:A2.length<=A.length + (j + 1):=by
   have:=a8I A' (a4g b0 s);rw [hA2];omega
  clear hA2 hA' hAo hAl' hA;simp only [LyS,List.cons_append,List.nil_append,List.append_nil] at hS
  repeat' (first|(with_reducible apply b9 b8);rfl;rfl;rfl|(with_reducible apply c9);rfl;(apply Ld.sc b8;rfl;exact hS.blkC 0 rfl rfl);rfl|refine yDn (by with_reducible constructor) ?_)
  obtain ⟨m,hm⟩:∃ m:Nat,(m:Int)=s.n:=⟨s.n.toNat,by omega⟩;refine l4 (Γ:=[]) (X:=Nat×(Option Addr×Nat)×List (Sh×Value)) (fun x=>[(151,.int .i64 (x.1:Nat))]) [16,65,2,4,7,63,64,150] rfl (fun x=>.blk g4 [.string ⟨I.name.toArray⟩,.slice pn I.needs.length cn,.slice (some ⟨b,off,none⟩) I.segs.length cs,.slice py I.syms.length cy,.slice pr I.rels.length cr,.int .i64 I.entry,.int .i64 (b0 * 16)]::(LyS go qa' da' x.2.1.1 x.2.1.2 en A2 x.2.2++(.obj r (.map es c)::bxs bs))) (fun x=>x.1<=m/\x.2.2=Lp++(bs.take (pgN b0 (I.segs.take j) + x.1)).map a80) (fun x=>m - x.1) (0,(qs,dq),L') (by exact Fr.sub_of rfl) ⟨xi5 _,hL'⟩ (by simpa only [LyS,List.cons_append,List.nil_append,List.append_nil] using hS.drop) ?_;clear hS hL';rintro ⟨n,⟨qs,dq⟩,L'⟩ w5 ⟨hn,hL'⟩ hS;dsimp only [] at hn hL' hS |-;simp only [LyS,List.cons_append,List.nil_append,List.append_nil] at hS;by_cases hnt:n < m;rotate_left
  ·obtain rfl:n=m:=by omega
   repeat' (first|(with_reducible apply b9 b8);rfl;rfl;rfl|(with_reducible apply f9);rfl;rfl;omega;omega;rfl|refine yDn (by with_reducible constructor) ?_|(with_reducible apply d7);rfl;all_goals (intro hb hp;try (exfalso;omega)))
   refine f8 (j + 1,(qa',da'),(qs,dq),A2,L') (by exact Fr.sub_of rfl) ⟨by show j + 1<=_;omega,hA3,?_,hA4,hA5⟩ (by simpa only [LyS,List.cons_append,List.nil_append,List.append_nil] using hS) (by show _ - (j + 1) < _ - j;omega);show L'=Lp++(bs.take (pgN b0 (I.segs.take (j + 1)))).map a80;rw [hL',b37 hs,show s.n.toNat=n by omega]
  obtain ⟨x,hx,hxk⟩:∃ x:Bx,bs[pgN b0 (I.segs.take j) + n]?=some x/\x.pg=b0 + s.pg + n:=by
   have h1:=b6g (b0:=b0) hs (show n < s.n.toNat by omega);have h2:=congrArg (fun l:List (Int×List UInt8×List Fx)=>l[pgN b0 (I.segs.take j) + n]?) hK;rw [xm3,xm3] at h2;unfold pgN at h2 |-;rw [h1] at h2
   cases h3:bs[(a1b b0 (I.segs.take j)).length + n]? with
   |none=>rw [h3] at h2;cases h2
   |some x=>
    rw [h3] at h2;simp only [xn5,Option.some.injEq] at h2;exact ⟨x,rfl,congrArg (·.1) h2⟩
  have hxm:=xd0 hx;have hkv:(Value.int .i64 (b0 + s.pg + n),Value.pointer (some ⟨x.g,0,none⟩)) ∈ bs.map kvB:=xh0.2 ⟨x,hxm,by unfold kvB;rw [hxk]⟩;have hLl2:L'.length<=101540:=by
   have h1:=a7h (b0:=b0) hs2;rw [hL',xe9,xh1,xa1];unfold pgN at hbl;omega
  repeat' (first|(with_reducible apply b9 b8);rfl;rfl;rfl|refine yDn (by with_reducible constructor) ?_|(with_reducible apply d7);rfl;all_goals (intro hb hp;try (exfalso;omega)))
  refine a3P (fun w'=>(Asr.blk go [.slice qa' A2.length da',.slice qs L'.length dq,.int .i64 en]).holds w') 16 17 rfl hS (by kernel_rfl) ?_;intro w10 hS';clear hS;have hS:=hS';clear hS';have hH:=hS.at_ (i:=1) rfl
  ((with_reducible apply f7 (nn 0) b8);rfl;kernel_rfl;exact (fun _ _ _ h=>h);exact xd3 hH;rfl;rfl)
  ((with_reducible apply f7 (nn 1) b8);rfl;kernel_rfl;exact (fun _ _ _ h=>h);exact xd3 hH;rfl;rfl)
  ((with_reducible apply f7 (nn 2) b8);rfl;kernel_rfl;exact (fun _ _ _ h=>h);exact xd3 hH;rfl;rfl)
  ((with_reducible apply f7 (nn 3) b8);rfl;kernel_rfl;exact (fun _ _ _ h=>h);exact xd3 hH;rfl;rfl)
  ((with_reducible apply n6 (nn 4));rfl;kernel_rfl;kernel_rfl;rfl;exact (fun _ _ _ h=>h);exact hH;rfl;(intro w2 hw2;(apply Ld.sl b8;rfl;exact a3o hw2 rfl));rfl)
  ((with_reducible apply f7 (nn 5) b8);rfl;kernel_rfl;exact (fun _ _ _ h=>h);exact xd3 hH;rfl;rfl)
  ((with_reducible apply f7 (nn 6) b8);rfl;kernel_rfl;exact (fun _ _ _ h=>h);exact xd3 hH;rfl;rfl)
  ((with_reducible apply f7 (nn 7) b8);rfl;kernel_rfl;exact (fun _ _ _ h=>h);exact xd3 hH;rfl;rfl)
  refine n8 (i:=8) (by kernel_rfl) ?_;refine m8 rfl (Gets.of_runs fun a ha=>a9V rfl rfl (by omega) (by omega) a ha _) rfl ?_;rintro _ _ ⟨rfl,rfl⟩;refine ⟨xd3 (xd3 hH),?_⟩;refine n8 (i:=9) (by kernel_rfl) ?_;refine m8 rfl (b1y hS (i:=4) a39 a8v rfl rfl rfl hM (k:=.int .i64 (b0 + s.pg + n)) rfl hkv false) rfl ?_;rintro _ _ ⟨rfl,rfl⟩;refine ⟨xd3 (xd3 hH),?_⟩;refine n8 (i:=10) (by kernel_rfl) ?_;refine m8 rfl (Gets.pure (v:=.pointer (some ⟨x.g,0,none⟩)) b8 (by rfl)) rfl ?_;rintro _ _ ⟨rfl,rfl⟩;refine ⟨xd3 (xd3 hH),?_⟩;have hxh:=hS.holds (bxB x) (by simp only [xc4,bxs,xe3];exact xd3 (xd3 (xd3 (xd3 (xd3 (xd6 (xh0.2 ⟨x,hxm,rfl⟩)))))));refine n8 (i:=11) (by kernel_rfl) ?_;refine m8 rfl (a8S rfl (b3s hxh)) rfl ?_;rintro _ _ ⟨rfl,rfl⟩;refine ⟨xd3 (xd3 hH),?_⟩;clear hxh;refine n8 (i:=12) (by kernel_rfl) ?_;refine m8 rfl (o0 hS b8 rfl rfl rfl rfl rfl rfl) rfl ?_;rintro _ w' ⟨g9,rfl,hS'⟩;clear hS;have hS:=hS';clear hS';have hH:=hS.at_ (i:=2) rfl;refine ⟨xd3 (xd3 hH),?_⟩;refine n8 (i:=13) (by kernel_rfl) ?_;refine m8 rfl (a0t hS b8 (i:=4) rfl rfl rfl rfl (hS.rowRo 0 rfl) rfl (by simp only [xh1];omega)) rfl ?_;rintro _ w' ⟨p',c',rfl,hS'⟩;simp only [List.set] at hS';clear hS;have hS:=hS';clear hS';have hH:=hS.at_ (i:=2) rfl;refine ⟨xd3 (xd3 hH),?_⟩
  ((with_reducible apply f7 (nn 14) b8);rfl;kernel_rfl;exact (fun _ _ _ h=>h);exact xd3 hH;rfl;rfl)
  ((with_reducible apply f7 (nn 15) b8);rfl;kernel_rfl;exact (fun _ _ _ h=>h);exact xd3 hH;rfl;rfl)
  refine n8 (i:=16) (by kernel_rfl) ?_;refine a0I (Φ:=fun _ w'=>St _ _ w' _) rfl (j9 hS b8 (i:=2) rfl rfl rfl rfl rfl (xg4 rfl) (by intro u hu;simp [Value.cells] at hu;subst hu;rfl)) ?_;intro _ w' hS';simp only [List.set] at hS';clear hS;have hS:=hS';clear hS';refine ⟨xd6 rfl,?_⟩;refine a1e (by kernel_rfl) ?_
  repeat' (first|(with_reducible apply b9 b8);rfl;rfl;rfl|(with_reducible apply f9);rfl;rfl;omega;omega;rfl|refine yDn (by with_reducible constructor) ?_)
  rw [xh1] at hS;have hS2:=hS.drop;clear hS;refine f8 (n + 1,(p',c'),L'++[a80 x]) (by exact Fr.sub_of rfl) ⟨by show n + 1<=m;omega,?_⟩ ?_ (by show m - (n + 1) < m - n;omega)
  ·show L'++[a80 x]=Lp++(bs.take (pgN b0 (I.segs.take j) + (n + 1))).map a80;rw [hL',<- xf7,xp5,hx];simp only [xm9,xk1,xc2,xq7,xg2]
  ·simp only [LyS,List.cons_append,List.nil_append,List.append_nil,xe9,xk1,xb3,xa2,xb1];exact hS2
 obtain ⟨x,hx⟩:=i9 (l:=I.rels) (i:=i) (by omega);have hrow:(I.rels.map rlC)[i]?=some [.int .i64 x.at_,.string ⟨x.name.toArray⟩,.int .i64 x.add]:=d9 (f:=rlC) hx;obtain ⟨b,off,rfl,hro⟩:=hrels.atF (i:=i) hlt;obtain ⟨⟨x1,x2⟩,x3⟩:=hpl.rels i x hx;obtain ⟨k1,k2,k3⟩:=b6i hK;have hnd:(bs.map (·.pg)).Nodup:=by rw [k1];exact b2L hch hs2
 have hpp:∀ d:Nat,d < 8->∃ b ∈ bs,b.pg=(b0 * 16 + x.at_ + d) / 16:=fun d hd=>by
  obtain ⟨k,hk,e⟩:=b2K (b0:=b0) (x3 d (by omega) (by omega));obtain ⟨b,hb,e2⟩:=k2 k hk;exact ⟨b,hb,by rw [e2,e];congr 1;omega⟩
 have hfx:∀ b ∈ bs,b.fx.length<=1000000:=fun b hb=>by
  obtain ⟨k,-,-,-,e⟩:=k3 b hb;have:=b3t (obP os) (b0 * 16) (I.rels.take i) k.1;rw [xa1] at this;rw [e];omega
 have hnext:∀ (s:List UInt8) (bs2:List Bx),a2A (obP os) (b0 * 16) x=some s->bs2.map gK=bs.map (gF (b0 * 16 + x.at_) s)->i + 1<=I.rels.length/\a7q (obP os) (b0 * 16) (I.rels.take (i + 1))=true/\MapG (.int .i64) es (bs2.map kvB)/\bs2.map a2T=(a1b b0 I.segs).map (a7F (a55 (obP os) (b0 * 16) (I.rels.take (i + 1)))):=fun s bs2 hb h2=>by
  refine ⟨by omega,o5 hsy hx (by rw [hb];rfl),?_,b7H hK h2 fun p=>?_⟩
  ·rw [b2f (f:=fun b=>(b.pg,b.data,b.fx++a4B (b0 * 16 + x.at_) s b.pg)) (fun _=>rfl) h2];exact hM
  ·rw [b0y hx];unfold a8H;rw [hb];rfl
 by_cases hn:x.name=[]
 ·have hd:(!decide (x.name=[]))=false:=by rw [xi0 hn];rfl
  have hby:a2A (obP os) (b0 * 16) x=some (leB (IntKind.i64.wrap (b0 * 16 + x.add)) 8):=by unfold a2A;rw [xf0 hn];rfl
  repeat' (first|(with_reducible apply b9 b8);rfl;rfl;rfl|(with_reducible apply c9);rfl;(first|apply Ld.sc b8;rfl;(first|exact hS.blkC 0 rfl rfl|exact hS.blkC 1 rfl rfl)|apply Ld.st b8;rfl;exact hS.roR (by assumption) (by assumption);rfl);rfl|(with_reducible apply l8 b8);rfl;rfl;rfl;rfl;omega;rfl|(with_reducible apply f9);rfl;rfl;omega;omega;rfl|(with_reducible apply a4G b8);rfl;rfl|refine yDn (by with_reducible constructor) ?_|(with_reducible apply f6);rfl;assumption|(with_reducible apply d6 hS b8);rfl;rfl;rfl;clear hS;intro g w' hS|(with_reducible apply d5 hS b8 (i:=0));(iterate 8 rfl);exact (rfl:_=[_,_,_]);clear hS;intro w' hS;simp only [List.set] at hS|(with_reducible apply d7);rfl;all_goals (intro hb hp;try (exfalso;omega))|(with_reducible apply y7);rfl;rfl;exact b7R _ _;rfl;rintro _ w' ⟨rfl,hS'⟩;replace hS:=hS.transA hS';simp only [s7] at hS;clear hS')
  repeat' (fail)
  replace hS:=hS.rotA 5;simp only [xk3,xk4,xh3,xh4] at hS
  ((with_reducible apply y7);rfl;rfl;exact b4L hS hM (leB_length _ _) (by omega) (by omega) hpp hnd hfx;rfl;rintro _ w' ⟨bs2,hK2,hS'⟩)
  replace hS:=(St.transM (Θ:=.obj r (.map es c)::bxs bs) hS hS').perm xi2;clear hS';simp only [List.cons_append,List.nil_append] at hS;replace hS:=St.reorderT 5 [1,2,3,4] hS (by decide) rfl;simp only [s7,xk3,xk4] at hS
  repeat' (first|(with_reducible apply b9 b8);rfl;rfl;rfl|(with_reducible apply f9);rfl;rfl;omega;omega;rfl|refine yDn (by with_reducible constructor) ?_)
  exact f8 (i + 1,bs2) (by exact Fr.sub_of rfl) (hnext _ _ hby hK2) (by simpa only [LyS,List.cons_append,List.nil_append,List.append_nil] using hS) (by show _ - (i + 1) < _ - i;omega)
 ·have hd:(!decide (x.name=[]))=true:=by rw [xh9 hn];rfl
  repeat' (first|(with_reducible apply b9 b8);rfl;rfl;rfl|(with_reducible apply c9);rfl;(first|apply Ld.sc b8;rfl;(first|exact hS.blkC 0 rfl rfl|exact hS.blkC 1 rfl rfl)|apply Ld.st b8;rfl;exact hS.roR (by assumption) (by assumption);rfl);rfl|(with_reducible apply l8 b8);rfl;rfl;rfl;rfl;omega;rfl|refine yDn (by with_reducible constructor) ?_|(with_reducible apply e8);rfl;assumption|(with_reducible apply d6 hS b8);rfl;rfl;rfl;clear hS;intro g w' hS|(with_reducible apply d5 hS b8 (i:=0));(iterate 8 rfl);exact (rfl:_=[_,_,_]);clear hS;intro w' hS;simp only [List.set] at hS|(with_reducible apply d7);rfl;all_goals (intro hb hp;try (exfalso;omega)))
  have hadr:=b1a (gw:=gw) x.name (Bs.of (hS.bs hc)) (hl.now hS) (fun y hy=>(hO y hy).now hS) hr
  cases had:adr (obP os) x.name with
  |none=>
   rw [had] at hadr;unfold b7J at hadr
   repeat' (first|(with_reducible apply b9 b8);rfl;rfl;rfl|refine yDn (by with_reducible constructor) ?_|(with_reducible apply e8);rfl;rfl|(with_reducible apply y7);rfl;rfl;exact hadr;rfl;rintro _ w' ⟨rfl,hS'⟩;replace hS:=hS.transA hS';simp only [s7] at hS;clear hS')
   (refine j4 rfl ?_)
   refine xd6 ⟨a4v hx ?_,rfl,hS.sub (xh2 _)⟩;unfold a2A;rw [xf1 hn,had];rfl
  |some a=>
   have hby:a2A (obP os) (b0 * 16) x=some (leB (IntKind.i64.wrap (a + x.add)) 8):=by unfold a2A;rw [xf1 hn,had];rfl
   rw [had] at hadr;unfold b7J at hadr
   repeat' (first|(with_reducible apply b9 b8);rfl;rfl;rfl|(with_reducible apply c9);rfl;(apply Ld.sc b8;rfl;(first|exact hS.blkC 0 rfl rfl|exact hS.blkC 1 rfl rfl));rfl|(with_reducible apply f9);rfl;rfl;omega;omega;rfl|(with_reducible apply a4G b8);rfl;rfl|refine yDn (by with_reducible constructor) ?_|(with_reducible apply f6);rfl;rfl|(with_reducible apply y7);rfl;rfl;exact hadr;rfl;rintro _ w' ⟨rfl,hS'⟩;replace hS:=hS.transA hS';simp only [s7] at hS;clear hS'|(with_reducible apply y7);rfl;rfl;exact b7R _ _;rfl;rintro _ w' ⟨rfl,hS'⟩;replace hS:=hS.transA hS';simp only [s7] at hS;clear hS')
   repeat' (fail)
   repeat' (fail)
   replace hS:=hS.rotA 5;simp only [xk3,xk4,xh3,xh4] at hS
   ((with_reducible apply y7);rfl;rfl;exact b4L hS hM (leB_length _ _) (by omega) (by omega) hpp hnd hfx;rfl;rintro _ w' ⟨bs2,hK2,hS'⟩)
   replace hS:=(St.transM (Θ:=.obj r (.map es c)::bxs bs) hS hS').perm xi2;clear hS';simp only [List.cons_append,List.nil_append] at hS;replace hS:=St.reorderT 5 [1,2,3,4] hS (by decide) rfl;simp only [s7,xk3,xk4] at hS
   repeat' (first|(with_reducible apply b9 b8);rfl;rfl;rfl|(with_reducible apply f9);rfl;rfl;omega;omega;rfl|refine yDn (by with_reducible constructor) ?_)
   exact f8 (i + 1,bs2) (by exact Fr.sub_of rfl) (hnext _ _ hby hK2) (by simpa only [LyS,List.cons_append,List.nil_append,List.append_nil] using hS) (by show _ - (i + 1) < _ - i;omega)
theorem b0u:∃ i,(Tryz.prog).info? 27=some i/\i.zero=some (.agg #[.string ⟨#[]⟩,.slice none 0 0,.slice none 0 0,.slice none 0 0,.slice none 0 0,.int .i64 0])/\i.size=6/\i.bytes=120:=by
 have h:((Tryz.prog).info? 27).map (fun i=>(i.zero,i.size,i.bytes))=some (some (.agg #[.string ⟨#[]⟩,.slice none 0 0,.slice none 0 0,.slice none 0 0,.slice none 0 0,.int .i64 0]),6,120):=by kernel_rfl
 cases hq:(Tryz.prog).info? 27 with
 |none=>simp [hq] at h
 |some i=>
  simp [hq] at h;exact ⟨i,rfl,h.1,h.2.1,h.2.2⟩
theorem b1o {w w':World} {e sz:Nat} {v:Value} (h:w'.ownsRow w.heap.size e sz v 0 []) (hb:Below w.heap.size w w'):St nF w w' [.row e sz v []]:=by
 refine ⟨hb.os,hb.tape,hb.output,hb.size,fun k hk _=>hb.block k hk,?_,?_,List.Pairwise.cons (by simp) List.Pairwise.nil⟩
 ·intro A hA;simp only [xn1] at hA;subst hA;refine ⟨?_,by simp,by simp⟩;refine ⟨h.1,?_⟩;rcases h.2 with hn|⟨g,cap,cur,rfl,hg,rest⟩
  ·exact .inl hn
  ·exact .inr ⟨g,cap,cur,rfl,xi5 _,rest⟩
 ·intro A hA k hk;simp only [xn1] at hA;subst hA;exact xd6 (h.lt k hk).1
def b3E (w:World) (e:Ending) (w':World):Prop:=∃ v,e=.returned v/\w'.ownsRow w.heap.size 27 6 v 0 []/\Below w.heap.size w w'
theorem b7X (n:Nat) (hn:n<=3000) (w:World):Calls Tryz.prog 87 #[.slice none 0 0,.int .i64 n] w (b3E w):=by
 have h1:¬ ((n:Int) < 0):=by omega
 by_cases h0:n=0
 ·subst h0
  go_enter Tryz.func87,Tryz.ntmps87
  go_wp2
  go_ret
  exact ⟨_,rfl,World.ownsRow_nil _ _ _ _,Below.refl _ _⟩
 obtain ⟨i0,hi0,hz0,hs0,hy0⟩:=b0u;have hn1:wrap64 ((n:Int) - 0)=n:=y0 _ (by omega) (by omega);have hbys:n * i0.bytes<=140737488355328:=by rw [hy0];omega
 obtain ⟨Z,hZ⟩:∃ Z:Array Value,Z=#[.string ⟨#[]⟩,.slice none 0 0,.slice none 0 0,.slice none 0 0,.slice none 0 0,.int .i64 0]:=⟨_,rfl⟩;have hrz:∀ ty,(Builtin.append_ #[28,3] ty #[.slice none 0 0,.int .i64 n]).run Tryz.prog w =
   .ok (.slice (some ⟨w.heap.size,0,none⟩) n (grownCap w n 0 27)) (w.drew.alloc (.cells (#[]++Builtin.zeroCells Z n++Builtin.zeroCells Z (grownCap w n 0 27 - n)) 27)):=fun ty=>by
  have h:=Lib.run_append_grow_zeros (P:=Tryz.prog) w 28 3 ty 27 i0 _ .i64 .i64 Tryz.underlying28 Tryz.underlying3 hi0 hz0 none 0 0 [] (run_firstCells_none w.drew i0.size 0 0 0) n (by omega) (by omega) (by omega) (by omega) (by omega)
   (by rw [xb1];exact growslice_fits (by omega) hbys)
  rw [xb1] at h;rw [hZ];exact h
 have hge:=grownCap_ge w n 0 27;have hcm:=grownCap_le_maxLen w n 0 27 (by unfold maxLen;omega);have hG63:grownCap w n 0 27<=9223372036854775807:=by unfold maxLen at hcm;exact hcm
 have hzz:∀ k,(Builtin.zeroCells Z k).size=k * 6:=fun k=>by rw [hZ];simp [size_zeroCells]
 generalize grownCap w n 0 27=G at *;have HZZ:=hid hzz;have HHI:=hid hbys;have HCM:=hid hcm;clear hbys hi0 hz0 hs0 hy0 hzz hcm h1;obtain ⟨cur,hcur⟩:∃ cur,cur=(#[]++Builtin.zeroCells Z n++Builtin.zeroCells Z (G - n)):=⟨_,rfl⟩;rw [<- hcur] at hrz;have HCU:Hid (cur.size=G * 6):=hid (by
  rw [hcur,Array.size_append,Array.size_append,HZZ.out,HZZ.out];simp;omega)
 clear hcur hZ
 go_enter Tryz.func87,Tryz.ntmps87
 go_wp2_with (at_builtin;refine Lib.wpList_append_run _ rfl _ _ _ _ rfl _ _ rfl rfl _ _ (hrz _) ?_)
 go_ret
 refine ⟨_,rfl,⟨rfl,xd3 ⟨w.heap.size,G,cur,rfl,xd4 _,heap_alloc_new w.drew _,xi5 _,HCM.out,HCU.out,rfl⟩⟩,Below.alloc (Below.drew (Below.refl _ _)) (xd4 _) _⟩
theorem b5v (n:Nat) (hn:n<=3000) (w:World):Fn Tryz.prog 87 [.slice none 0 0,.int .i64 n] w (fun v w'=>St nF w w' [.row 27 6 v []]):=by
 refine ⟨⟨Tryz.f87,Tryz.func87,by kernel_rfl,by kernel_rfl⟩,?_⟩;exact (b7X n hn w).mono fun e w' ⟨v,he,hs,hb⟩=>⟨v,he,b1o hs hb⟩
theorem b6C {w:World} {c:Nat} {v0 v1:Value} {ra rb:List (List Value)} (hr:RoAt nF w c 0 1 [[v0],[v1]]) (h0:Sl nF w 6 v0 ra) (h1:Sl nF w 6 v1 rb) (hA:ra.length<=1000) (hB:rb.length<=1000) :
  Fn Tryz.prog 37 [.slice (some ⟨c,0,none⟩) 2 2] w (fun u w'=>St nF w w' [.row 27 6 u (ra++rb)]):=by
 obtain ⟨p0,c0,rfl⟩:=h0.form;obtain ⟨p1,c1,rfl⟩:=h1.form;refine b0f (fn:=Tryz.f37) ⟨Tryz.func37,by kernel_rfl,by kernel_rfl⟩ (by rfl) Tryz.ntmps37 (by rfl) ?_;have hS:=St.start w;have hi0:([[.slice p0 ra.length c0],[.slice p1 rb.length c1]]:List (List Value))[0]?=some [.slice p0 ra.length c0]:=rfl;have hi1:([[.slice p0 ra.length c0],[.slice p1 rb.length c1]]:List (List Value))[1]?=some [.slice p1 rb.length c1]:=rfl
 repeat' (first|(with_reducible apply b9 b8);rfl;rfl;rfl|refine yDn (by with_reducible constructor) ?_)
 refine a7b 3 ?_
 repeat' (first|(with_reducible apply b9 b8);rfl;rfl;rfl|(with_reducible apply c9);rfl;(apply Ld.sl b8;rfl;exact hS.roC0 (by assumption) (by assumption) rfl);rfl|(with_reducible apply l8 b8);rfl;rfl;rfl;rfl;(simp only [xh1,xb3,xa2,xe9];omega);rfl|(with_reducible apply f9);rfl;rfl;omega;omega;rfl|refine yDn (by with_reducible constructor) ?_|(with_reducible apply e8);rfl;rfl|(with_reducible apply f6);rfl;rfl|with_reducible apply a2s|with_reducible apply a2J)
 have hg:=fun w=>b5v (ra.length + rb.length) (by omega) w;rw [show ((ra.length + rb.length:Nat):Int)=0 + (ra.length:Int) + (rb.length:Int) by omega] at hg
 ((with_reducible apply y7);rfl;rfl;exact hg _;rfl;rintro v w' hS';replace hS:=hS.transA hS';simp only [s7] at hS;clear hS')
 repeat' (first|(with_reducible apply b9 b8);rfl;rfl;rfl|refine yDn (by with_reducible constructor) ?_)
 refine a7b 3 ?_
 repeat' (first|(with_reducible apply b9 b8);rfl;rfl;rfl|(with_reducible apply c9);rfl;(apply Ld.sl b8;rfl;exact hS.roC0 (by assumption) (by assumption) rfl);rfl|(with_reducible apply l8 b8);rfl;rfl;rfl;rfl;(simp only [xh1,xb3,xa2,xe9];omega);rfl|(with_reducible apply f9);rfl;rfl;omega;omega;rfl|refine yDn (by with_reducible constructor) ?_|(with_reducible apply e8);rfl;rfl|(with_reducible apply f6);rfl;rfl|with_reducible apply a2s|with_reducible apply a2J|(with_reducible apply a0z hS b8 0);(iterate 4 rfl);exact h0.now hS;(simp only [xa2,xe9];omega);rfl;intro p' cap' w' hS';simp only [List.set] at hS';clear hS;have hS:=hS';clear hS'|(with_reducible apply a0z hS b8 0);(iterate 4 rfl);exact h1.now hS;(simp only [xa2,xe9];omega);rfl;intro p' cap' w' hS';simp only [List.set] at hS';clear hS;have hS:=hS';clear hS')
 (refine j4 rfl ?_)
 exact hS
structure ImB (I:Im):Prop where
 needs:I.needs.length<=1048576
 segs:I.segs.length<=1048576
 syms:I.syms.length<=1048576
 rels:I.rels.length<=1048576
def nl0 (I:Im):List (List UInt8):=I.name::I.needs
def nl1 (I:Im) (i:Nat):List (List UInt8):=nl0 I++(I.syms.take i).map (·.name)
def nl2 (I:Im) (i:Nat):List (List UInt8):=nl1 I I.syms.length++((I.rels.take i).filter (fun r=>!decide (r.name=[]))).map (·.name)
theorem a2Z {α:Type} {l:List α} {i:Nat} {x:α} (hx:l[i]?=some x):l.take (i + 1)=l.take i++[x]:=by
 rw [xp5,hx];rfl
theorem b5n {I:Im} {i:Nat} {x:Sy} (hx:I.syms[i]?=some x):(nl1 I i).map stC++[stC x.name]=(nl1 I (i + 1)).map stC:=by
 unfold nl1;rw [a2Z hx];simp
theorem b4M {I:Im} {i:Nat} {x:Rl} (hx:I.rels[i]?=some x) (hn:¬ x.name=[]):(nl2 I i).map stC++[stC x.name]=(nl2 I (i + 1)).map stC:=by
 unfold nl2;rw [a2Z hx];simp [hn]
theorem b4r {I:Im} {i:Nat} {x:Rl} (hx:I.rels[i]?=some x) (hn:x.name=[]):nl2 I i=nl2 I (i + 1):=by
 unfold nl2;rw [a2Z hx];simp [hn]
theorem b6a {I:Im} (h:ImB I) (i:Nat):((nl1 I i).map stC).length<=2097153:=by
 have h1:=h.needs;have h2:=h.syms;simp only [nl1,nl0,xh1,xe9,xb3,xa1];omega
theorem b10 {I:Im} (h:ImB I) (i:Nat):((nl2 I i).map stC).length<=4194304:=by
 have h1:=h.needs;have h2:=h.syms;have h3:=h.rels;have h4:=xm1 (fun r:Rl=>!decide (r.name=[])) (I.rels.take i);rw [xa1] at h4;simp only [nl2,nl1,nl0,xh1,xe9,xb3,xa1];omega
theorem b1V (I:Im):(nl2 I I.rels.length).all nmB=a9F I:=by
 unfold nl2 nl1 nl0 a9F;rw [xj1,xj1];rw [xc9];simp only [xc7,List.cons_append,xc4,xe3,xh0,xi6,xb4,Bool.or_eq_true,xb5,xc8,xm0];constructor
 ·intro h;refine ⟨h _ (xd6 rfl),fun s hs=>h _ (xd3 (xd6 (xd6 hs))),fun s hs=>h _ (xd3 (xd6 (xd3 ⟨s,hs,rfl⟩))),fun r hr=>?_⟩;by_cases e:r.name=[]
  ·exact xd6 e
  ·exact xd3 (h _ (xd3 (xd3 ⟨r,⟨hr,e⟩,rfl⟩)))
 ·rintro ⟨h1,h2,h3,h4⟩ x (rfl|(hx|⟨s,hs,rfl⟩)|⟨r,⟨hr,e⟩,rfl⟩)
  ·exact h1
  ·exact h2 x hx
  ·exact h3 s hs
  ·exact (h4 r hr).resolve_left e
theorem a23 {I:Im} {w:World} {vn vs vy vr:Value} (hI:ImV w I vn vs vy vr) (hB:ImB I):Fn Tryz.prog 88 [imA I vn vs vy vr] w (RBf (.int .i64 (if a9F I=true then 0 else 4)) w):=by
 have bn:=hI.needs.bound;have bs:=hI.segs.bound;have by_:=hI.syms.bound;have br:=hI.rels.bound;obtain ⟨pn,cn,rfl⟩:=hI.needs.len;obtain ⟨ps,cs,rfl⟩:=hI.segs.len;obtain ⟨py,cy,rfl⟩:=hI.syms.len;obtain ⟨pr,cr,rfl⟩:=hI.rels.len;refine yEn Tryz.func88 Tryz.ntmps88 (by kernel_rfl) (by kernel_rfl) rfl rfl ?_;have hS:=St.start w;have hb1:=hB.needs;have hb2:=hB.syms;have hb3:=hB.rels
 repeat' (first|(with_reducible apply b9 b8);rfl;rfl;rfl|(with_reducible apply c9);rfl;(first|apply Ld.sc b8;rfl;exact hS.blkC 0 rfl rfl|apply Ld.sl b8;rfl;exact hS.blkC 1 rfl rfl);rfl|refine yDn (by with_reducible constructor) ?_|(with_reducible apply k9 hS);rfl;rfl;rfl;clear hS;intro g w' hS|(with_reducible apply a0E hS b8);(iterate 7 rfl);clear hS;intro g w' hS|(with_reducible apply a0z hS b8 0);(iterate 4 rfl);exact hI.needs.now hS;(simp only [xh1,xb3,xa2,xe9];omega);rfl;intro p' cap' w' hS';simp only [List.set] at hS';clear hS;have hS:=hS';clear hS')
 have e1:[[.string ⟨I.name.toArray⟩]]++I.needs.map stC=(nl1 I 0).map stC:=by simp [nl1,nl0,stC]
 rw [e1] at hS;refine l4 (X:=Nat×Option Addr×Nat×Nat) (fun x=>[(19,.int .i64 (x.1:Nat)),(3,.slice x.2.1 x.2.2.1 x.2.2.2)]) [1,17,18] rfl (fun x=>[.row 9 1 (.slice x.2.1 x.2.2.1 x.2.2.2) ((nl1 I x.1).map stC)]) (fun x=>x.1<=I.syms.length) (fun x=>I.syms.length - x.1) (0,p',_,cap') (by exact Fr.sub_of rfl) (by exact xi5 _) hS ?_;rintro ⟨i,q1,q2,q3⟩ w1 hi hS';simp only [List.cons_append,List.nil_append] at hi hS' |-;clear hS;have hS:=hS';clear hS';by_cases hlt:i < I.syms.length
 ·obtain ⟨x,hx⟩:=i9 (l:=I.syms) (i:=i) (by omega);have hrow:=d9 (f:=syC) hx;obtain ⟨b,off,rfl,hro⟩:=(hI.syms).at_ hlt;have hl1:=b6a hB i
  repeat' (first|(with_reducible apply b9 b8);rfl;rfl;rfl|(with_reducible apply c9);rfl;(first|apply Ld.sc b8;rfl;exact hS.blkC 0 rfl rfl|apply Ld.st b8;rfl;exact hS.roR (by assumption) (by assumption);rfl);rfl|(with_reducible apply l8 b8);rfl;rfl;rfl;rfl;omega;rfl|(with_reducible apply f9);rfl;rfl;omega;omega;rfl|refine yDn (by with_reducible constructor) ?_|(with_reducible apply d6 hS b8);rfl;rfl;rfl;clear hS;intro g w' hS|(with_reducible apply a0E hS b8);(iterate 7 rfl);clear hS;intro g w' hS|(with_reducible apply d5 hS b8 (i:=0));(iterate 8 rfl);exact (rfl:_=[_,_]);clear hS;intro w' hS;simp only [List.set] at hS|(with_reducible apply d7);rfl;all_goals (intro hb hp;try (exfalso;omega))|(with_reducible apply a2W hS b8 2);(iterate 4 rfl);exact hS.rowRo 0 rfl;rfl;omega;rfl;intro p' cap' w' hS';simp only [List.set] at hS';clear hS;have hS:=hS';clear hS')
  rw [show [[.string ⟨x.name.toArray⟩]]=[stC x.name] from rfl,b5n hx] at hS;refine f8 (i + 1,p',_,cap') (by exact Fr.sub_of rfl) (by show i + 1<=I.syms.length;omega) ?_ (by show I.syms.length - (i + 1) < I.syms.length - i;omega);exact (hS.drop.drop)
 have e2:=xa0 (l:=I.syms) (i:=i) (by omega);have e3:nl1 I i=nl1 I I.syms.length:=by unfold nl1;rw [e2,xj1]
 have e4:(nl1 I i).map stC=(nl2 I 0).map stC:=by unfold nl2;rw [e3];simp
 repeat' (first|(with_reducible apply b9 b8);rfl;rfl;rfl|(with_reducible apply c9);rfl;(apply Ld.sl b8;rfl;exact hS.blkC 1 rfl rfl);rfl|refine yDn (by with_reducible constructor) ?_|(with_reducible apply d7);rfl;all_goals (intro hb hp;try (exfalso;omega)))
 rw [e4] at hS;refine l4 (X:=Nat×Option Addr×Nat×Nat) (fun x=>[(32,.int .i64 (x.1:Nat)),(3,.slice x.2.1 x.2.2.1 x.2.2.2)]) [1,30,31] rfl (fun x=>[.row 9 1 (.slice x.2.1 x.2.2.1 x.2.2.2) ((nl2 I x.1).map stC)]) (fun x=>x.1<=I.rels.length) (fun x=>I.rels.length - x.1) (0,q1,_,q3) (by exact Fr.sub_of rfl) (by exact xi5 _) hS ?_;clear hi hlt hb hp e2 e3 e4 hS;rintro ⟨j,q4,q5,q6⟩ w1 hi hS;simp only [List.cons_append,List.nil_append] at hi hS |-;by_cases hlt:j < I.rels.length
 ·obtain ⟨x,hx⟩:=i9 (l:=I.rels) (i:=j) (by omega);have hrow:=d9 (f:=rlC) hx;obtain ⟨b,off,rfl,hro⟩:=hI.rels.at_ hlt;have hl1:=b10 hB j
  repeat' (first|(with_reducible apply b9 b8);rfl;rfl;rfl|(with_reducible apply c9);rfl;(first|apply Ld.sc b8;rfl;exact hS.blkC 0 rfl rfl|apply Ld.st b8;rfl;exact hS.roR (by assumption) (by assumption);rfl);rfl|(with_reducible apply l8 b8);rfl;rfl;rfl;rfl;omega;rfl|(with_reducible apply f9);rfl;rfl;omega;omega;rfl|refine yDn (by with_reducible constructor) ?_|(with_reducible apply d6 hS b8);rfl;rfl;rfl;clear hS;intro g w' hS|(with_reducible apply a0E hS b8);(iterate 7 rfl);clear hS;intro g w' hS|(with_reducible apply d5 hS b8 (i:=0));(iterate 8 rfl);exact (rfl:_=[_,_,_]);clear hS;intro w' hS;simp only [List.set] at hS|(with_reducible apply d7);rfl;all_goals (intro hb hp;try (exfalso;omega))|(with_reducible apply a0K);rfl;all_goals (intro hb hp;try (exfalso;omega))|(with_reducible apply a2W hS b8 2);(iterate 4 rfl);exact hS.rowRo 0 rfl;rfl;omega;rfl;intro p' cap' w' hS';simp only [List.set] at hS';clear hS;have hS:=hS';clear hS')
  ·rw [show [[.string ⟨x.name.toArray⟩]]=[stC x.name] from rfl,b4M hx (by simpa using hp)] at hS;refine f8 (j + 1,p',_,cap') (by exact Fr.sub_of rfl) (by show j + 1<=I.rels.length;omega) ?_ (by show I.rels.length - (j + 1) < I.rels.length - j;omega);exact (hS.drop.drop)
  ·rw [b4r hx (by simpa using hp)] at hS;refine f8 (j + 1,q4,_,q6) (by exact Fr.sub_of rfl) (by show j + 1<=I.rels.length;omega) ?_ (by show I.rels.length - (j + 1) < I.rels.length - j;omega);exact hS.drop
 have e5:nl2 I j=nl2 I I.rels.length:=by unfold nl2;rw [xa0 (l:=I.rels) (i:=j) (by omega),xj1]
 rw [e5] at hS;have hl2:=b10 hB I.rels.length;rw [xh1] at hl2;have hm:=hS.rowLen 0 rfl;rw [xh1] at hm;subst hm
 repeat' (first|(with_reducible apply b9 b8);rfl;rfl;rfl|refine yDn (by with_reducible constructor) ?_|(with_reducible apply d7);rfl;all_goals (intro hb hp;try (exfalso;omega)))
 refine a0p hS 47 [1,45,46] rfl ((nl2 I I.rels.length).length) (fun i=>((nl2 I I.rels.length).take i).all nmB=true) 0 rfl (xi5 _) (by (rfl)) ?_;rintro i w1 hi hall hS';clear hS;have hS:=hS';clear hS';by_cases hlt:i < (nl2 I I.rels.length).length
 ·obtain ⟨x,hx⟩:=i9 (l:=nl2 I I.rels.length) (i:=i) (by omega);have hrow:=d9 (f:=stC) hx;obtain ⟨g2,rfl⟩:=hS.rowSome 0 rfl (by omega)
  repeat' (first|(with_reducible apply b9 b8);rfl;rfl;rfl|(with_reducible apply c9);rfl;(apply Ld.sc b8;rfl;exact hS.rowC0 0 rfl (by assumption) rfl);rfl|(with_reducible apply l8 b8);rfl;rfl;rfl;rfl;omega;rfl|(with_reducible apply f9);rfl;rfl;omega;omega;rfl|refine yDn (by with_reducible constructor) ?_|(with_reducible apply d7);rfl;all_goals (intro hb hp;try (exfalso;omega))|(with_reducible apply a97);rfl;all_goals (intro hb hp;try (exfalso;omega))|(with_reducible apply d8 hS);rfl;rfl;rfl;refine ⟨_,b5V _ _,?_⟩;clear hS;intro w' hS)
  ·(refine j4 rfl ?_)
   refine ⟨?_,hS.sub (xh2 _)⟩;rw [xf1 (by rw [<- b1V,a4v hx (by simpa using hb)];simp)]
  ·exact v9 (i + 1) (by exact Fr.sub_of rfl) (by omega) (o5 hall hx (by simpa using hb)) (by omega) hS
 ·repeat' (first|(with_reducible apply b9 b8);rfl;rfl;rfl|refine yDn (by with_reducible constructor) ?_|(with_reducible apply d7);rfl;all_goals (intro hb hp;try (exfalso;omega)))
  (refine j4 rfl ?_)
  refine ⟨?_,hS.sub (xh2 _)⟩;rw [xf0 (by rw [<- b1V];exact a1y hall (by omega))]
theorem a20 {I:Im} {w:World} {vn vs vy vr:Value} (hI:ImV w I vn vs vy vr):Fn Tryz.prog 89 [imA I vn vs vy vr] w (RBf (.int .i64 (if b0o I=true then 0 else 2)) w):=by
 have bn:=hI.needs.bound;have bs:=hI.segs.bound;have by_:=hI.syms.bound;have br:=hI.rels.bound;obtain ⟨pn,cn,rfl⟩:=hI.needs.len;obtain ⟨ps,cs,rfl⟩:=hI.segs.len;obtain ⟨py,cy,rfl⟩:=hI.syms.len;obtain ⟨pr,cr,rfl⟩:=hI.rels.len;refine yEn Tryz.func89 Tryz.ntmps89 (by kernel_rfl) (by kernel_rfl) rfl rfl ?_;have hS:=St.start w
 repeat' (first|(with_reducible apply b9 b8);rfl;rfl;rfl|(with_reducible apply c9);rfl;(apply Ld.sl b8;rfl;exact hS.blkC 0 rfl rfl);rfl|refine yDn (by with_reducible constructor) ?_|(with_reducible apply k6);(iterate 4 rfl);assumption|(with_reducible apply q8);(iterate 4 rfl);(first|rfl|assumption);rfl|(with_reducible apply i7);rfl;(first|rfl|assumption);rfl;rfl|(with_reducible apply e9);rfl;assumption;rfl;rfl|(with_reducible apply e8);rfl;rfl|(with_reducible apply k9 hS);rfl;rfl;rfl;clear hS;intro g w' hS|(with_reducible apply n9);rfl;rfl;rfl;all_goals (intro hb hp;try (exfalso;omega))|(with_reducible apply d7);rfl;all_goals (intro hb hp;try (exfalso;omega)))
 all_goals (refine j4 rfl ?_)
 all_goals refine ⟨?_,hS.sub (xh2 _)⟩
 all_goals first
  |(rw [xf1 (by unfold b0o;rw [xb5];omega)];done)
  |(rw [xf0 (by unfold b0o;rw [xb5];omega)];done)
theorem a2C {I:Im} {w:World} {vn vs vy vr:Value} (hI:ImV w I vn vs vy vr) (hd:∀ s ∈ I.segs,(s.data.length:Int)<=9223372036854775807):Fn Tryz.prog 90 [imA I vn vs vy vr] w (RBf (.int .i64 (if a5y I=true then 0 else 3)) w):=by
 have bn:=hI.needs.bound;have bs:=hI.segs.bound;have by_:=hI.syms.bound;have br:=hI.rels.bound;obtain ⟨pn,cn,rfl⟩:=hI.needs.len;obtain ⟨ps,cs,rfl⟩:=hI.segs.len;obtain ⟨py,cy,rfl⟩:=hI.syms.len;obtain ⟨pr,cr,rfl⟩:=hI.rels.len;refine yEn Tryz.func90 Tryz.ntmps90 (by kernel_rfl) (by kernel_rfl) rfl rfl ?_;have hS:=St.start w
 repeat' (first|(with_reducible apply b9 b8);rfl;rfl;rfl|(with_reducible apply c9);rfl;(apply Ld.sl b8;rfl;exact hS.blkC 0 rfl rfl);rfl|refine yDn (by with_reducible constructor) ?_|(with_reducible apply k9 hS);rfl;rfl;rfl;clear hS;intro g w' hS)
 refine a0p hS 8 [1,6,7] rfl (I.segs.length) (fun i=>(I.segs.take i).all a2N=true) 0 rfl (xi5 _) (by (rfl)) ?_;rintro i w1 hi hall hS';clear hS;have hS:=hS';clear hS';by_cases hlt:i < I.segs.length
 ·obtain ⟨x,hx⟩:=i9 (l:=I.segs) (i:=i) (by omega);have hrow:=d9 (f:=sgC) hx;obtain ⟨b,off,rfl,hro⟩:=(hI.segs).at_ hlt;have hdx:=hd x (xd0 hx)
  repeat' (first|(with_reducible apply b9 b8);rfl;rfl;rfl|(with_reducible apply c9);rfl;(first|apply Ld.sc b8;rfl;exact hS.blkC 0 rfl rfl|apply Ld.st b8;rfl;exact hS.roR (by assumption) (by assumption);rfl);rfl|(with_reducible apply l8 b8);rfl;rfl;rfl;rfl;omega;rfl|(with_reducible apply f9);rfl;rfl;omega;omega;rfl|(with_reducible apply a0R);rfl;rfl;omega;omega;rfl|(with_reducible apply b1Q);rfl;rfl;omega;omega;rfl|refine yDn (by with_reducible constructor) ?_|(with_reducible apply k6);(iterate 4 rfl);assumption|(with_reducible apply q8);(iterate 4 rfl);(first|rfl|assumption);rfl|(with_reducible apply i7);rfl;(first|rfl|assumption);rfl;rfl|(with_reducible apply e9);rfl;assumption;rfl;rfl|(with_reducible apply e8);rfl;rfl|(with_reducible apply d6 hS b8);rfl;rfl;rfl;clear hS;intro g w' hS|(with_reducible apply d5 hS b8 (i:=0));(iterate 8 rfl);exact (rfl:_=[_,_,_,_,_]);clear hS;intro w' hS;simp only [List.set] at hS|(with_reducible apply n9);rfl;rfl;rfl;all_goals (intro hb hp;try (exfalso;omega))|(with_reducible apply d7);rfl;all_goals (intro hb hp;try (exfalso;omega)))
  all_goals first
   |exact v9 (i + 1) (by exact Fr.sub_of rfl) (by omega) (o5 hall hx (by unfold a2N;rw [xb5];omega)) (by omega) hS.drop
   |(refine j4 rfl ?_;refine ⟨?_,hS.sub (xh2 _)⟩;rw [xf1 (by rw [a5y,a4v hx (by unfold a2N;rw [xm0];omega)];simp)])
 ·repeat' (first|(with_reducible apply b9 b8);rfl;rfl;rfl|refine yDn (by with_reducible constructor) ?_|(with_reducible apply d7);rfl;all_goals (intro hb hp;try (exfalso;omega)))
  (refine j4 rfl ?_)
  refine ⟨?_,hS.sub (xh2 _)⟩;rw [xf0 (show a5y I=true from a1y hall (by omega))]
theorem b8h {b:Bool} (h:b=false):(!b)=true:=by rw [h];rfl
theorem b1Z {I:Im} {w:World} {vn vs vy vr:Value} (x0:Int) (hI:ImV w I vn vs vy vr) (hok:a5y I=true):Fn Tryz.prog 137 [imA I vn vs vy vr,.int .i64 x0] w (RBf (.tuple #[.agg (sgC ((own I.segs x0).getD b4t)).toArray,.bool (own I.segs x0).isSome]) w):=by
 have bn:=hI.needs.bound;have bs:=hI.segs.bound;have by_:=hI.syms.bound;have br:=hI.rels.bound;obtain ⟨pn,cn,rfl⟩:=hI.needs.len;obtain ⟨ps,cs,rfl⟩:=hI.segs.len;obtain ⟨py,cy,rfl⟩:=hI.syms.len;obtain ⟨pr,cr,rfl⟩:=hI.rels.len;refine yEn Tryz.func137 Tryz.ntmps137 (by kernel_rfl) (by kernel_rfl) rfl rfl ?_;have hS:=St.start w
 repeat' (first|(with_reducible apply b9 b8);rfl;rfl;rfl|(with_reducible apply c9);rfl;(apply Ld.sl b8;rfl;exact hS.blkC 1 rfl rfl);rfl|refine yDn (by with_reducible constructor) ?_|(with_reducible apply k9 hS);rfl;rfl;rfl;clear hS;intro g w' hS|(with_reducible apply d6 hS b8);rfl;rfl;rfl;clear hS;intro g w' hS)
 refine a0p hS 11 [1,2,4,9,10] rfl (I.segs.length) (fun i=>(I.segs.take i).all (fun s=>!a7a x0 s)=true) 0 rfl (xi5 _) (by (rfl)) ?_;rintro i w1 hi hall hS';clear hS;have hS:=hS';clear hS';by_cases hlt:i < I.segs.length
 ·obtain ⟨x,hx⟩:=i9 (l:=I.segs) (i:=i) (by omega);have hrow:=d9 (f:=sgC) hx;obtain ⟨b,off,rfl,hro⟩:=(hI.segs).at_ hlt;obtain ⟨o1,o2,o3,o4,-⟩:=a7S hok hx
  repeat' (first|(with_reducible apply b9 b8);rfl;rfl;rfl|(with_reducible apply c9);rfl;(first|apply Ld.sc b8;rfl;exact hS.blkC 0 rfl rfl|apply Ld.st b8;rfl;(first|exact hS.blkR 0 rfl|exact hS.roR (by assumption) (by assumption));rfl);rfl|(with_reducible apply l8 b8);rfl;rfl;rfl;rfl;omega;rfl|(with_reducible apply f9);rfl;rfl;omega;omega;rfl|(with_reducible apply b1Q);rfl;rfl;omega;omega;rfl|refine yDn (by with_reducible constructor) ?_|(with_reducible apply k6);(iterate 4 rfl);assumption|(with_reducible apply q8);(iterate 4 rfl);assumption;rfl|(with_reducible apply i7);rfl;assumption;rfl;rfl|(with_reducible apply e9);rfl;assumption;rfl;rfl|(with_reducible apply f6);rfl;rfl|(with_reducible apply d6 hS b8);rfl;rfl;rfl;clear hS;intro g w' hS|(with_reducible apply d5 hS b8 (i:=0));(iterate 8 rfl);exact (rfl:_=[_,_,_,_,_]);clear hS;intro w' hS;simp only [List.set] at hS|(with_reducible apply d5 hS b8 (i:=1));(iterate 8 rfl);exact (rfl:_=[_,_,_,_,_]);clear hS;intro w' hS;simp only [List.set] at hS|(with_reducible apply n9);rfl;rfl;rfl;all_goals (intro hb hp;try (exfalso;omega))|(with_reducible apply d7);rfl;all_goals (intro hb hp;try (exfalso;omega)))
  all_goals first
   |exact v9 (i + 1) (by exact Fr.sub_of rfl) (by omega) (o5 hall hx (b8h (by unfold a7a;rw [xm0];omega))) (by omega) hS.drop
   |skip
  (apply a05;repeat (first|exact ResL.nil|apply ResL.tmp;rfl|apply ResL.cell;rfl;(apply Ld.st b8;rfl;exact hS.blkR 1 rfl;rfl)))
  refine ⟨?_,hS.sub (xh2 _)⟩;rw [b5K hall hx (by unfold a7a;rw [xb5];omega)];rfl
 ·repeat' (first|(with_reducible apply b9 b8);rfl;rfl;rfl|(with_reducible apply l6 b8);rfl;rfl;exact (rfl:_=some [_,_,_,_,_]);rfl|refine yDn (by with_reducible constructor) ?_|(with_reducible apply d5 hS b8 (i:=0));(iterate 8 rfl);exact (rfl:_=[_,_,_,_,_]);clear hS;intro w' hS;simp only [List.set] at hS|(with_reducible apply d7);rfl;all_goals (intro hb hp;try (exfalso;omega)))
  (apply a05;repeat (first|exact ResL.nil|apply ResL.tmp;rfl|apply ResL.cell;rfl;(apply Ld.st b8;rfl;exact hS.blkR 0 rfl;rfl)))
  refine ⟨?_,hS.sub (xh2 _)⟩;rw [b3g hall (by omega)];rfl
end Go.Proofs.YtejnpppejalhfabGreat
namespace Go.Proofs.YtejnpppejalhfabGreat
set_option maxRecDepth 100000
set_option maxHeartbeats 8000000
open Go.RowKit Go.Sort Go.MapKept
structure MapN (es:Array MapEntry) (L:List (List UInt8×Int)):Prop where
 held:es.toList.map (fun e=>(e.key,e.val))=L.map fun p=>(Value.string ⟨p.1.toArray⟩,Value.int .i64 p.2)
 once:(L.map (·.1)).Nodup
theorem MapN.nil:MapN #[] []:=⟨rfl,by simp⟩
theorem a6p {a b:List UInt8} (h:Value.string ⟨a.toArray⟩=Value.string ⟨b.toArray⟩):a=b:=by
 simpa using h
theorem MapN.at_ {w:World} {r c:Nat} {es:Array MapEntry} {L:List (List UInt8×Int)} (h:MapN es L) (hr:w.heap[r]?=some (.map es c)):MapAt .string w r (L.map fun p=>(Value.string ⟨p.1.toArray⟩,Value.int .i64 p.2)):=by
 refine ⟨⟨es,c,hr,h.held⟩,fun p hp=>?_,?_⟩
 ·obtain ⟨q,_,rfl⟩:=xh0.1 hp;trivial
 ·rw [xl6];have:(Prod.fst ∘ fun p:List UInt8×Int=>(Value.string ⟨p.1.toArray⟩,Value.int .i64 p.2))=(fun x:List UInt8=>Value.string ⟨x.toArray⟩) ∘ (·.1):=rfl;rw [this,<- xl6];exact List.Pairwise.map _ (fun a b hab e=>hab (a6p e)) h.once
section
variable {P:Program} {n:Nat} {ds:List Deferred} {E:Fr} {w:World} {Q:Exit->Act->World->Prop} {ops:Array Oper} {rest:List Oper} {d:Nat} {ty:TypeId} {pos:String} {after:Array Edge} {F:Nat->Prop} {w0:World} {Γ:List Asr} {T:Tab}
theorem b3v (hS:St F w0 w Γ) {t:TypeId} (hd:Nat.blt d n=true) (k:∀ r w',St F w0 w' (.obj r (.map #[] 0)::Γ)->WL P ops Q rest n ds ((d,.map (some r))::E) w'):WL P ops Q (⟨some d,.makeMap t none,ty,pos,after,none⟩::rest) n ds E w :=
 z8 (Φ:=fun v w'=>∃ r,v=.map (some r)/\St F w0 w' (.obj r (.map #[] 0)::Γ)) hd (fun a ha K Q k=>by
  have hex:(execOp a.eval ⟨some d,.makeMap t none,ty,pos,after,none⟩).run P w=.ok (.value (.map (some w.heap.size))) (w.alloc (.map #[] 0)):=by
   simp only [execOp];rfl
  unfold Oper.wp;rw [hex];exact k _ _ ⟨_,rfl,hS.new (World.grownBy_alloc w _ none) ⟨(heap_alloc w _).1,rfl⟩ (by simp [Asr.fp])⟩) (by rintro _ w' ⟨r,rfl,h⟩;exact k r w' h)
theorem a9b (hS:St F w0 w Γ) (hT:TabOk P T) {t Kt Et:TypeId} {m x:Operand} {r c:Nat} (i:Nat) {es:Array MapEntry} {L:List (List UInt8×Int)} {s:List UInt8} {u:Int} (ht:P.underlying t=some (.map Kt Et)) (hK:P.underlying Kt=some .string) (hE:T.get Et=some (.sc (.int .i64) 1 (.int .i64 0))) (hm:E.ev m=some (.map (some r))) (hx:E.ev x=some (.string ⟨s.toArray⟩)) (hi:Γ[i]?=some (.obj r (.map es c))) (hL:MapN es L)
  (hv:(s,u) ∈ L\/((∀ v,(s,v) ∉ L)/\u=0)) (hd:Nat.blt d n=true) (k:WL P ops Q rest n ds ((d,.int .i64 u)::E) w):WL P ops Q (⟨some d,.lookup t m x false,ty,pos,after,none⟩::rest) n ds E w :=
 z8 (Φ:=fun v w'=>v=.int .i64 u/\w'=w) hd (Gets.of_at fun a ha=>by
  have hat:=hL.at_ (hS.at_ hi).1;obtain ⟨zi,_,_,hzi,_,hz,_⟩:=hT.sc hE;have hz':(zeroValue Et).run P w=.ok (.int .i64 0) w:=by simp [zeroValue,typeInfo,hzi,hz]
  have hrun:(Instr.lookup t (.map (some r)) (.string ⟨s.toArray⟩) false).run P w=.ok (.int .i64 u) w:=by
   rcases hv with hv|⟨hv,rfl⟩
   ·exact a2x (k:=.string ⟨s.toArray⟩) (v:=.int .i64 u) ht hK hat trivial (xh0.2 ⟨(s,u),hv,rfl⟩) false
   ·refine a2a (k:=.string ⟨s.toArray⟩) ht hK hat trivial (fun v hv'=>?_) hz' false;obtain ⟨q,hq,e⟩:=xh0.1 hv';simp only [Prod.mk.injEq] at e;have:=a6p e.1;exact hv q.2 (by rw [<- this];exact hq)
  simp only [execOp,ha.ev hm,ha.ev hx,Sem.run_bind,hrun,Result.andThen_ok,Sem.run_pure]) (by rintro _ _ ⟨rfl,rfl⟩;exact k)
theorem b5B {t Kt Et:TypeId} {r c:Nat} {es:Array MapEntry} {L:List (List UInt8×Int)} {s:List UInt8} {u v:Int} (ht:P.underlying t=some (.map Kt Et)) (hK:P.underlying Kt=some .string) (hr:w.heap[r]?=some (.map es c)) (hL:MapN es L) (hm:(s,u) ∈ L) :
  ∃ es',(Instr.mapUpdate t (.map (some r)) (.string ⟨s.toArray⟩) (.int .i64 v)).run P w=.ok () { w with heap:=w.heap.setIfInBounds r (.map es' c) }/\∃ L',MapN es' L'/\(s,v) ∈ L':=by
 have hat:=hL.at_ hr;have hk:IsKey .string (Value.string ⟨s.toArray⟩):=trivial;have hkeys:∀ e ∈ es.toList,IsKey .string e.key:=fun e he=>hat.keys (e.key,e.val) (by rw [<- hL.held];exact xh0.2 ⟨e,he,rfl⟩);have hnd:(es.toList.map (·.key)).Nodup:=by
  have:=hat.once;rw [<- hL.held,xl6] at this;exact this
 have hmem:∃ e ∈ es.toList,e.key=.string ⟨s.toArray⟩/\e.val=.int .i64 u:=by
  have:((Value.string ⟨s.toArray⟩,Value.int .i64 u):Value×Value) ∈ es.toList.map (fun e=>(e.key,e.val)):=by
   rw [hL.held];exact xh0.2 ⟨(s,u),hm,rfl⟩
  obtain ⟨e,he,h2⟩:=xh0.1 this;simp only [Prod.mk.injEq] at h2;exact ⟨e,he,h2⟩
 obtain ⟨j,hj,hf,hkj⟩:=a3G (v:=.int .i64 u) hk es.toList 0 hkeys hnd hmem;rw [xb1] at hf;have h1:=run_checkKey (P:=P) (w:=w) hK hk false 9999;have h2:=run_findKey (P:=P) (w:=w) hK hf;have hjs:j < es.size:=by simpa using hj
 have hkj':(es[j]?.map (·.key)).getD (Value.string ⟨s.toArray⟩)=.string ⟨s.toArray⟩:=by
  rw [show es[j]?=es.toList[j]? by simp,hkj];rfl
 have h3:=run_keyThatStays (P:=P) (w:=w) hk;refine ⟨es.modify j fun e=>{ e with key:=.string ⟨s.toArray⟩,val:=.int .i64 v },?_,L.set j (s,v),⟨?_,?_⟩,?_⟩
 ·simp only [Instr.mapUpdate,run_underlying ht,Go.MapKept.run_getObj_map hr,h1,h2,Result.andThen_ok,Sem.run_bind,hkj',h3,run_setObj_map _ hr]
 ·refine xm8 fun m=>?_;rw [xm7,<- hL.held,Array.toList_modify,xm3,List.getElem?_modify,xe0,xm3,xh1];by_cases e:j=m
  ·subst e;have:es.toList[j]?=some es[j]:=by simp [hjs]
   rw [this,xf0 rfl,xf0 hj];simp
  ·simp [e]
 ·have hLj:∃ q,L[j]?=some q/\q.1=s:=by
   have h4:=congrArg (fun l=>l[j]?) hL.held;simp only [xm3] at h4
   cases hq:L[j]? with
   |none=>rw [hq] at h4;simp [hjs] at h4
   |some q=>
    refine ⟨q,rfl,?_⟩;rw [hq] at h4;have h5:es.toList[j]?=some es[j]:=by simp [hjs]
    rw [h5] at h4 hkj;simp only [xn5,Option.some.injEq,Prod.mk.injEq] at h4 hkj;exact a6p (h4.1.symm.trans hkj)
  obtain ⟨q,hq,hqs⟩:=hLj;rw [xm7];have:(L.map (·.1)).set j s=L.map (·.1):=by
   refine xm8 fun m=>?_;rw [xe0]
   split
   ·rename_i e;subst e;simp only [xh1,xm3,hq,xn5,hqs];rw [xf0 (e7 hq)]
   ·rfl
  rw [show (s,v).1=s from rfl,this];exact hL.once
 ·have:j < L.length:=by have:=congrArg List.length hL.held;rw [xh1,xh1] at this;omega
  exact xd9.2 ⟨j,by simp [this]⟩
theorem b5S {t Kt Et:TypeId} {r c:Nat} {es:Array MapEntry} {L:List (List UInt8×Int)} {s:List UInt8} {v:Int} (ht:P.underlying t=some (.map Kt Et)) (hK:P.underlying Kt=some .string) (hr:w.heap[r]?=some (.map es c)) (hL:MapN es L) (hm:∀ v,(s,v) ∉ L) :
  ∃ es' c',(Instr.mapUpdate t (.map (some r)) (.string ⟨s.toArray⟩) (.int .i64 v)).run P w=.ok () { w with heap:=w.heap.setIfInBounds r (.map es' c') }/\MapN es' (L++[(s,v)]):=by
 have hat:=hL.at_ hr;have hk:IsKey .string (Value.string ⟨s.toArray⟩):=trivial;have hkeys:∀ e ∈ es.toList,IsKey .string e.key:=fun e he=>hat.keys (e.key,e.val) (by rw [<- hL.held];exact xh0.2 ⟨e,he,rfl⟩);have hno:∀ e ∈ es.toList,e.key≠.string ⟨s.toArray⟩:=fun e he hek=>by
  have:(e.key,e.val) ∈ L.map fun p=>(Value.string ⟨p.1.toArray⟩,Value.int .i64 p.2):=by rw [<- hL.held];exact xh0.2 ⟨e,he,rfl⟩
  obtain ⟨q,hq,h2⟩:=xh0.1 this;simp only [Prod.mk.injEq] at h2;exact hm q.2 (by rw [<- a6p (h2.1.trans hek)];exact hq)
 have hf:=a3b hk es.toList 0 hkeys hno;have h1:=run_checkKey (P:=P) (w:=w) hK hk false 9999;have h2:=run_findKey (P:=P) (w:=w) hK hf;refine ⟨es.push { key:=.string ⟨s.toArray⟩,val:=.int .i64 v,born:=c },c + 1,?_,?_,?_⟩
 ·simp only [Instr.mapUpdate,run_underlying ht,Go.MapKept.run_getObj_map hr,h1,h2,Result.andThen_ok,Sem.run_bind,run_setObj_map _ hr]
 ·simp [hL.held]
 ·rw [xk1,xq6];refine ⟨hL.once,by simp,fun a ha b hb'=>?_⟩;have:b=s:=by simpa using hb'
  subst this;rintro rfl;obtain ⟨p,hp,hpk⟩:=xh0.1 ha;exact hm p.2 (by rw [<- hpk];exact hp)
theorem b6S (hS:St F w0 w Γ) {t Kt Et:TypeId} {m x y:Operand} {r c:Nat} (i:Nat) {es:Array MapEntry} {L:List (List UInt8×Int)} {s:List UInt8} {v:Int} (ht:P.underlying t=some (.map Kt Et)) (hK:P.underlying Kt=some .string) (hm:E.ev m=some (.map (some r))) (hx:E.ev x=some (.string ⟨s.toArray⟩)) (hy:E.ev y=some (.int .i64 v)) (hi:Γ[i]?=some (.obj r (.map es c))) (hL:MapN es L)
  (k1:(∃ u,(s,u) ∈ L)->∀ es' c' L' w',MapN es' L'->(s,v) ∈ L'->St F w0 w' (Γ.set i (.obj r (.map es' c')))->WL P ops Q rest n ds E w')
  (k2:(∀ u,(s,u) ∉ L)->∀ es' c' w',MapN es' (L++[(s,v)])->St F w0 w' (Γ.set i (.obj r (.map es' c')))->WL P ops Q rest n ds E w'):WL P ops Q (⟨none,.mapUpdate t m x y,ty,pos,after,none⟩::rest) n ds E w:=by
 have hr:=(hS.at_ hi).1;have hst:∀ (es':Array MapEntry) (c':Nat),St F w0 { w with heap:=w.heap.setIfInBounds r (.map es' c') } (Γ.set i (.obj r (.map es' c'))):=fun es' c'=>by
  have hset:=heap_set (o':=Obj.map es' c') hr;exact hS.upd hi ⟨rfl,rfl,rfl,by simp,fun g _ hg=>hset.2 g (fun e=>hg (by simp [Asr.fp,e]))⟩ ⟨hset.1,rfl⟩ (fun q hq=>xd6 hq)
 have go:∀ (es':Array MapEntry) (c':Nat),(Instr.mapUpdate t (.map (some r)) (.string ⟨s.toArray⟩) (.int .i64 v)).run P w=.ok () { w with heap:=w.heap.setIfInBounds r (.map es' c') }->(∀ w',St F w0 w' (Γ.set i (.obj r (.map es' c')))->WL P ops Q rest n ds E w')->WL P ops Q (⟨none,.mapUpdate t m x y,ty,pos,after,none⟩::rest) n ds E w:=fun es' c' hrun k=>
  a2j (Φ:=fun _ w'=>St F w0 w' (Γ.set i (.obj r (.map es' c')))) (fun a ha K Q kk=>by
   have hex:(execOp a.eval ⟨none,.mapUpdate t m x y,ty,pos,after,none⟩).run P w=.ok .skip { w with heap:=w.heap.setIfInBounds r (.map es' c') }:=by
    simp only [execOp,ha.ev hm,ha.ev hx,ha.ev hy,Sem.run_bind,hrun,Result.andThen_ok,Sem.run_pure]
   unfold Oper.wp;rw [hex];exact kk undef _ (hst es' c')) (fun _ w' h=>k w' h)
 by_cases hex:∃ u,(s,u) ∈ L
 ·obtain ⟨u,hu⟩:=hex;obtain ⟨es',hrun,L',h1,h2⟩:=b5B (v:=v) ht hK hr hL hu;exact go es' c hrun (fun w' h=>k1 ⟨u,hu⟩ es' c L' w' h1 h2 h)
 ·have hno:∀ u,(s,u) ∉ L:=fun u hu=>hex ⟨u,hu⟩;obtain ⟨es',c',hrun,h1⟩:=b5S (v:=v) ht hK hr hL hno;exact go es' c' hrun (fun w' h=>k2 hno es' c' w' h1 h)
end
end Go.Proofs.YtejnpppejalhfabGreat
namespace Go.Proofs.YtejnpppejalhfabGreat
set_option maxRecDepth 100000
set_option maxHeartbeats 8000000
open Go.RowKit Go.Sort
def a6b (l:List (List UInt8)) (i:Nat):List (List UInt8×Int):=(l.take i).map fun s=>(s,1)
theorem a4X {l:List (List UInt8)} {i:Nat} {x:List UInt8} {u:Int}:(x,u) ∈ a6b l i ↔ x ∈ l.take i/\u=1:=by
 unfold a6b;rw [xh0];constructor
 ·rintro ⟨y,h1,h2⟩;cases h2;exact ⟨h1,rfl⟩
 ·rintro ⟨h1,rfl⟩;exact ⟨x,h1,rfl⟩
theorem a9W {l:List (List UInt8)} {w:World} {v:Value} (hl:Sl nF w 1 v (l.map stC)):Fn Tryz.prog 136 [v] w (RBf (.bool (pB (Dup l))) w):=by
 have bl:=hl.bound;obtain ⟨pl,cl,rfl⟩:=hl.len;refine yEn Tryz.func136 Tryz.ntmps136 (by kernel_rfl) (by kernel_rfl) rfl rfl ?_;have hS:=St.start w
 repeat' (first|(with_reducible apply b9 b8);rfl;rfl;rfl|refine yDn (by with_reducible constructor) ?_|(with_reducible apply b3v hS);rfl;intro r w' hS';clear hS;have hS:=hS';clear hS')
 refine l4 (X:=Nat×Array MapEntry×Nat) (fun x=>[(9,.int .i64 (x.1:Nat))]) [3,7,8] rfl (fun x=>[.obj r (.map x.2.1 x.2.2)]) (fun x=>x.1<=l.length/\MapN x.2.1 (a6b l x.1)) (fun x=>l.length - x.1) (0,#[],0) (by exact Fr.sub_of rfl) ⟨xi5 _,MapN.nil⟩ hS ?_;clear hS;rintro ⟨i,es,c⟩ w1 ⟨hi,hL⟩ hS;simp only [List.cons_append,List.nil_append] at hi hL hS |-;by_cases hlt:i < l.length
 ·obtain ⟨x,hx⟩:=i9 (l:=l) (i:=i) (by omega);have hrow:=d9 (f:=stC) hx;obtain ⟨b,off,rfl,hro⟩:=hl.at_ hlt;by_cases hin:x ∈ l.take i
  ·have hv:(x,(1:Int)) ∈ a6b l i\/((∀ v,(x,v) ∉ a6b l i)/\(1:Int)=0):=xd6 (a4X.2 ⟨hin,rfl⟩)
   repeat' (first|(with_reducible apply b9 b8);rfl;rfl;rfl|(with_reducible apply c9);rfl;(apply Ld.sc b8;rfl;exact hS.roC0 (by assumption) (by assumption) rfl);rfl|(with_reducible apply l8 b8);rfl;rfl;rfl;rfl;omega;rfl|(with_reducible apply f9);rfl;rfl;omega;omega;rfl|refine yDn (by with_reducible constructor) ?_|(with_reducible apply e8);rfl;rfl|(with_reducible apply d7);rfl;all_goals (intro hb hp;try (exfalso;omega))|(with_reducible apply a9b hS b8 0 (u:=1) (ht:=Tryz.underlying105) (hK:=Tryz.underlying9) (hL:=hL));(iterate 4 rfl);exact hv;rfl|(with_reducible apply b6S hS 0 (ht:=Tryz.underlying105) (hK:=Tryz.underlying9) (hL:=hL));(iterate 4 rfl);(intro hex es2 c2 L2 w' hL2 hin2 hS';simp only [List.set] at hS';clear hS;have hS:=hS';clear hS');rotate_left;(intro hex es2 c2 w' hL2 hS';simp only [List.set] at hS';clear hS;have hS:=hS';clear hS');rotate_left|(with_reducible apply a9b hS b8 0 (u:=(1 + 1:Int)) (ht:=Tryz.underlying105) (hK:=Tryz.underlying9) (hL:=hL2));(iterate 4 rfl);(left;assumption);rfl)
   ·(refine j4 rfl ?_)
    refine ⟨?_,hS.sub (xh2 _)⟩;obtain ⟨j,hj⟩:=xd9.1 hin;have hji:=e7 hj;rw [xa1] at hji;rw [xf5,xf0 (by omega)] at hj;rw [a41 ⟨i,j,x,by omega,hx,hj⟩]
   ·exact (hex 1 (a4X.2 ⟨hin,rfl⟩)).elim
  ·have hv:(x,(0:Int)) ∈ a6b l i\/((∀ v,(x,v) ∉ a6b l i)/\(0:Int)=0):=xd3 ⟨fun v hv=>hin (a4X.1 hv).1,rfl⟩;have hin3:(x,(0 + 1:Int)) ∈ a6b l i++[(x,(0 + 1:Int))]:=by simp
   repeat' (first|(with_reducible apply b9 b8);rfl;rfl;rfl|(with_reducible apply c9);rfl;(apply Ld.sc b8;rfl;exact hS.roC0 (by assumption) (by assumption) rfl);rfl|(with_reducible apply l8 b8);rfl;rfl;rfl;rfl;omega;rfl|(with_reducible apply f9);rfl;rfl;omega;omega;rfl|refine yDn (by with_reducible constructor) ?_|(with_reducible apply f6);rfl;rfl|(with_reducible apply d7);rfl;all_goals (intro hb hp;try (exfalso;omega))|(with_reducible apply a9b hS b8 0 (u:=0) (ht:=Tryz.underlying105) (hK:=Tryz.underlying9) (hL:=hL));(iterate 4 rfl);exact hv;rfl|(with_reducible apply b6S hS 0 (ht:=Tryz.underlying105) (hK:=Tryz.underlying9) (hL:=hL));(iterate 4 rfl);(intro hex es2 c2 L2 w' hL2 hin2 hS';simp only [List.set] at hS';clear hS;have hS:=hS';clear hS');rotate_left;(intro hex es2 c2 w' hL2 hS';simp only [List.set] at hS';clear hS;have hS:=hS';clear hS');rotate_left|(with_reducible apply a9b hS b8 0 (u:=(0 + 1:Int)) (ht:=Tryz.underlying105) (hK:=Tryz.underlying9) (hL:=hL2));(iterate 4 rfl);(left;assumption);rfl)
   ·obtain ⟨u,hu⟩:=hex;exact (hin (a4X.1 hu).1).elim
   ·rw [show a6b l i++[(x,(0 + 1:Int))]=a6b l (i + 1) by unfold a6b;rw [a2Z hx];simp] at hL2;exact f8 (i + 1,es2,c2) (by exact Fr.sub_of rfl) ⟨by show i + 1<=l.length;omega,hL2⟩ hS (by show l.length - (i + 1) < l.length - i;omega)
 ·repeat' (first|(with_reducible apply b9 b8);rfl;rfl;rfl|refine yDn (by with_reducible constructor) ?_|(with_reducible apply d7);rfl;all_goals (intro hb hp;try (exfalso;omega)))
  (refine j4 rfl ?_)
  refine ⟨?_,hS.sub (xh2 _)⟩;rw [a3x];rintro ⟨a,b,x,h1,h2,h3⟩;have hn:=hL.once;unfold a6b at hn;rw [xa0 (by omega),xl6] at hn;have:((fun p:List UInt8×Int=>p.1) ∘ fun s=>(s,1))=(id:List UInt8->List UInt8):=rfl;rw [show ((fun p:List UInt8×Int=>p.1) ∘ fun s=>(s,(1:Int)))=(id:List UInt8->List UInt8) from rfl,List.map_id] at hn;obtain ⟨ha,ea⟩:=xa7.1 h2;obtain ⟨hb,eb⟩:=xa7.1 h3;exact (xd8.1 hn b a hb ha h1) (eb.trans ea.symm)
theorem b5Q {I:Im} (h1:Ch I.segs) (h2:¬ Dup (I.syms.map (·.name))) (h3:¬ Dup I.needs):a7u I=true:=a41 ⟨h1,h2,h3⟩
theorem b7h {I:Im} (h1:¬ Ch I.segs):a7u I=false:=a3x fun h=>h1 h.1
theorem b7M {I:Im} (h2:Dup (I.syms.map (·.name))):a7u I=false:=a3x fun h=>h.2.1 h2
theorem b7w {I:Im} (h2:Dup I.needs):a7u I=false:=a3x fun h=>h.2.2 h2
def syN (I:Im) (i:Nat):List (List UInt8):=(I.syms.take i).map (·.name)
theorem b5h {I:Im} {i:Nat} {x:Sy} (hx:I.syms[i]?=some x):(syN I i).map stC++[stC x.name]=(syN I (i + 1)).map stC:=by
 unfold syN;rw [a2Z hx];simp
theorem b6B {I:Im} (h:ImB I) (i:Nat):((syN I i).map stC).length<=1048576:=by
 have h2:=h.syms;simp only [syN,xh1,xa1];omega
theorem b6d {I:Im} {i:Nat} (h:I.syms.length<=i):syN I i=I.syms.map (·.name):=by unfold syN;rw [xa0 h]
theorem a7n {I:Im} {w:World} {vn vs vy vr:Value} (hI:ImV w I vn vs vy vr) (hB:ImB I) (hok:a5y I=true):Fn Tryz.prog 91 [imA I vn vs vy vr] w (RBf (.int .i64 (if a7u I=true then 0 else 5)) w):=by
 have bn:=hI.needs.bound;have bs:=hI.segs.bound;have by_:=hI.syms.bound;have br:=hI.rels.bound;obtain ⟨pn,cn,rfl⟩:=hI.needs.len;obtain ⟨ps,cs,rfl⟩:=hI.segs.len;obtain ⟨py,cy,rfl⟩:=hI.syms.len;obtain ⟨pr,cr,rfl⟩:=hI.rels.len;refine yEn Tryz.func91 Tryz.ntmps91 (by kernel_rfl) (by kernel_rfl) rfl rfl ?_;have hS:=St.start w;have hb2:=hB.syms
 repeat' (first|(with_reducible apply b9 b8);rfl;rfl;rfl|refine yDn (by with_reducible constructor) ?_|(with_reducible apply k9 hS);rfl;rfl;rfl;clear hS;intro g w' hS)
 refine a0p hS 3 [1] rfl (I.segs.length + 1) (fun i=>1<=i/\∀ (j:Nat) (a b:Sg),j + 1 < i->I.segs[j]?=some a->I.segs[j + 1]?=some b->a.pg + a.n<=b.pg) 1 rfl (by omega) ⟨xd4 _,by intros;omega⟩ ?_;rintro i w1 hi ⟨hi1,hall⟩ hS';clear hS;have hS:=hS';clear hS';by_cases hlt:i < I.segs.length
 ·obtain ⟨x,hx⟩:=i9 (l:=I.segs) (i:=i) (by omega);have hrow:=d9 (f:=sgC) hx;obtain ⟨b,off,rfl,hro⟩:=(hI.segs).at_ hlt;obtain ⟨y,hy⟩:=i9 (l:=I.segs) (i:=i - 1) (by omega);have hrow2:=d9 (f:=sgC) hy;have hix:((i - 1:Nat):Int)=(i:Int) - 1:=by omega
  obtain ⟨o1,o2,o3,o4,-⟩:=a7S hok hx;obtain ⟨u1,u2,u3,u4,-⟩:=a7S hok hy
  repeat' (first|(with_reducible apply b9 b8);rfl;rfl;rfl|(with_reducible apply c9);rfl;(apply Ld.sl b8;rfl;exact hS.blkC 0 rfl rfl);rfl|(with_reducible apply f9);rfl;rfl;omega;omega;rfl|refine yDn (by with_reducible constructor) ?_|(with_reducible apply d7);rfl;all_goals (intro hb hp;try (exfalso;omega))|focus ((with_reducible apply e6 _ _ _ (by kernel_rfl) (by kernel_rfl) hS);(repeat' ((first|(with_reducible apply a12);rfl;rfl;omega;omega;rfl|(with_reducible apply a1G);rfl;rfl;omega;omega;rfl|(with_reducible apply j3 b8);rfl;rfl|(with_reducible apply j0);rfl;(intro wd hd;replace hd:St _ _ wd _:=hd;(first|apply Ld.sc b8;rfl;(first|exact hd.roC0 (by assumption) (by assumption) rfl|exact hd.roC (by assumption) (by assumption) rfl)|apply Ld.sl b8;rfl;exact hd.blkC 0 rfl rfl));rfl|(with_reducible apply a0s b8);rfl;rfl;rfl;(first|rfl|assumption);omega;rfl)));all_goals ((with_reducible apply k8);intro w' hS';clear hS;have hS:=hS';clear hS')))
  ·(refine j4 rfl ?_)
   refine ⟨?_,hS.sub (xh2 _)⟩;rw [xf1 (by rw [b7h (fun h=>by have:=h (i - 1) y x hy (by rw [show i - 1 + 1=i by omega];exact hx);omega)];simp)]
  ·refine v9 (i + 1) (by exact Fr.sub_of rfl) (by omega) ⟨by omega,fun j a b h1 h2 h3=>?_⟩ (by omega) hS;by_cases e:j=i - 1
   ·subst e;rw [show i - 1 + 1=i by omega] at h3;rw [hy] at h2;rw [hx] at h3
    cases h2
    cases h3
    omega
   ·exact hall j a b (by omega) h2 h3
 have hch:Ch I.segs:=fun j a b h1 h2=>hall j a b (by have:=e7 h2;omega) h1 h2
 repeat' (first|(with_reducible apply b9 b8);rfl;rfl;rfl|(with_reducible apply c9);rfl;(apply Ld.sl b8;rfl;exact hS.blkC 0 rfl rfl);rfl|refine yDn (by with_reducible constructor) ?_|(with_reducible apply d7);rfl;all_goals (intro hb hp;try (exfalso;omega)))
 replace hS:=hS.addNil 9 1;rw [show ([]:List (List Value))=(syN I 0).map stC from rfl] at hS;refine l4 (X:=Nat×Option Addr×Nat×Nat) (fun x=>[(39,.int .i64 (x.1:Nat)),(4,.slice x.2.1 x.2.2.1 x.2.2.2)]) [1,37,38] rfl (fun x=>[.row 9 1 (.slice x.2.1 x.2.2.1 x.2.2.2) ((syN I x.1).map stC)]) (fun x=>x.1<=I.syms.length) (fun x=>I.syms.length - x.1) (0,none,0,0) (by exact Fr.sub_of rfl) (by exact xi5 _) hS ?_;clear hi hlt hb hp hall hi1 hS;rintro ⟨j,q1,q2,q3⟩ w1 hi hS;simp only [List.cons_append,List.nil_append] at hi hS |-;by_cases hlt:j < I.syms.length
 ·obtain ⟨x,hx⟩:=i9 (l:=I.syms) (i:=j) (by omega);have hrow:=d9 (f:=syC) hx;obtain ⟨b,off,rfl,hro⟩:=hI.syms.at_ hlt;have hl1:=b6B hB j
  repeat' (first|(with_reducible apply b9 b8);rfl;rfl;rfl|(with_reducible apply c9);rfl;(first|apply Ld.sc b8;rfl;exact hS.blkC 0 rfl rfl|apply Ld.st b8;rfl;exact hS.roR (by assumption) (by assumption);rfl);rfl|(with_reducible apply l8 b8);rfl;rfl;rfl;rfl;omega;rfl|(with_reducible apply f9);rfl;rfl;omega;omega;rfl|refine yDn (by with_reducible constructor) ?_|(with_reducible apply d6 hS b8);rfl;rfl;rfl;clear hS;intro g w' hS|(with_reducible apply a0E hS b8);(iterate 7 rfl);clear hS;intro g w' hS|(with_reducible apply d5 hS b8 (i:=0));(iterate 8 rfl);exact (rfl:_=[_,_]);clear hS;intro w' hS;simp only [List.set] at hS|(with_reducible apply d7);rfl;all_goals (intro hb hp;try (exfalso;omega))|(with_reducible apply a2W hS b8 2);(iterate 4 rfl);exact hS.rowRo 0 rfl;rfl;omega;rfl;intro p' cap' w' hS';simp only [List.set] at hS';clear hS;have hS:=hS';clear hS')
  rw [show [[.string ⟨x.name.toArray⟩]]=[stC x.name] from rfl,b5h hx] at hS;refine f8 (j + 1,p',_,cap') (by exact Fr.sub_of rfl) (by show j + 1<=I.syms.length;omega) ?_ (by show I.syms.length - (j + 1) < I.syms.length - j;omega);exact (hS.drop.drop)
 rw [b6d (by omega)] at hS
 repeat' (first|(with_reducible apply b9 b8);rfl;rfl;rfl|(with_reducible apply c9);rfl;(apply Ld.sl b8;rfl;exact hS.blkC 1 rfl rfl);rfl|refine yDn (by with_reducible constructor) ?_|(with_reducible apply k6);(iterate 4 rfl);assumption|(with_reducible apply q8);(iterate 4 rfl);assumption;rfl|(with_reducible apply i7);rfl;assumption;rfl;rfl|(with_reducible apply e9);rfl;assumption;rfl;rfl|(with_reducible apply e8);rfl;rfl|(with_reducible apply n9);rfl;rfl;rfl;all_goals (intro hb hp;try (exfalso;omega))|(with_reducible apply d7);rfl;all_goals (intro hb hp;try (exfalso;omega))|(with_reducible apply d8 hS);rfl;rfl;rfl;refine ⟨_,a9W (hS.rowSl 0 rfl),?_⟩;clear hS;intro w' hS|(with_reducible apply d8 hS);rfl;rfl;rfl;refine ⟨_,a9W (hI.needs.now hS),?_⟩;clear hS;intro w' hS)
 all_goals (refine j4 rfl ?_)
 all_goals refine ⟨?_,hS.sub (xh2 _)⟩
 ·rw [xf1 (by rw [b7M hp];simp)]
 ·rw [xf1 (by rw [b7w hp];simp)]
 ·rw [xf0 (b5Q hch (by assumption) hp)]
end Go.Proofs.YtejnpppejalhfabGreat
