/- Texts that the proof stands on, one behind the other: Lk9, Lk10, Lk11, Im2, Im3, Im4, Sc13, Im5. -/
import Derived.Test.YtejnpppejalhfacPKernelEmpty5
/- The linker lays an object down. -/
namespace Go.Proofs.Ytejnpppejalhfac
open Go.RowKit Go.Sort
theorem b5P (n:Int) (w:World):Fn Try.prog 79 [.int .i64 n,.int .i64 8] w (RBf (.tuple #[.string ⟨(leB n 8).toArray⟩,.int .i64 0]) w) :=
 Fn.of_rb ⟨Try.func79,by kernel_rfl,by kernel_rfl⟩ (a5t (b4t n 8 w (by decide) (by decide)))
theorem St.rotA {F:Nat→Prop} {w0 w:World} {Γ:List Asr} (m:Nat) (h:St F w0 w Γ):St F w0 w (Γ.drop m++Γ.take m):=by
 refine h.perm ?_
 conv=>lhs;rw [← List.take_append_drop m Γ]
 exact List.perm_append_comm
abbrev LyS (go:Nat) (pa:Option Addr) (ca:Nat) (ps:Option Addr) (cs:Nat) (en:Int) (A:List Ar) (Lp:List (Sh×Value)):List Asr :=
 [.blk go [.slice pa A.length ca,.slice ps Lp.length cs,.int .i64 en],.row 71 4 (.slice pa A.length ca) (A.map arC),.row 97 3 (.slice ps Lp.length cs) (Lp.map fun p=>shC p.1 p.2)]
def a2N (p:Sh×Value):Asr:=.row 100 2 p.2 (p.1.fixes.map fxC)
def a7H (b:Bx):Sh×Value:=(⟨b.pg,b.data,b.fx⟩,b.v)
def a6v (f:Int→List Fx) (k:Int×List UInt8×List Fx):Int×List UInt8×List Fx:=(k.1,k.2.1,f k.1)
theorem b3P {bs:List Bx} {K:List (Int×List UInt8×List Fx)} {f:Int→List Fx} (hK:bs.map a2l=K.map (a6v f)):(bs.map (·.pg)=K.map (·.1))∧(∀ k ∈ K,∃ b ∈ bs,b.pg=k.1)∧(∀ b ∈ bs,∃ k ∈ K,b.pg=k.1∧b.data=k.2.1∧b.fx=f k.1):=by
 refine ⟨?_,fun k hk=>?_,fun b hb=>?_⟩
 ·have:=congrArg (List.map (·.1)) hK
  rw [List.map_map,List.map_map] at this
  exact this
 ·have:a6v f k ∈ bs.map a2l:=by rw [hK];exact List.mem_map.2 ⟨k,hk,rfl⟩
  obtain ⟨b,hb,e⟩:=List.mem_map.1 this
  exact ⟨b,hb,congrArg (·.1) e⟩
 ·have:a2l b ∈ K.map (a6v f):=by rw [← hK];exact List.mem_map.2 ⟨b,hb,rfl⟩
  obtain ⟨k,hk,e⟩:=List.mem_map.1 this
  exact ⟨k,hk,(congrArg (·.1) e).symm,(congrArg (·.2.1) e).symm,(congrArg (·.2.2) e).symm⟩
theorem b5b {bs bs2:List Bx} {K:List (Int×List UInt8×List Fx)} {f g:Int→List Fx} {at_:Int} {s:List UInt8} (hK:bs.map a2l=K.map (a6v f)) (h2:bs2.map gK=bs.map (gF at_ s)) (hg:∀ p,g p=f p++a3N at_ s p):bs2.map a2l=K.map (a6v g):=by
 have e1:bs2.map a2l=(bs2.map gK).map (·.2):=by rw [List.map_map];rfl
 have e2:(bs.map (gF at_ s)).map (·.2)=(bs.map a2l).map fun k=>(k.1,k.2.1,k.2.2++a3N at_ s k.1):=by rw [List.map_map,List.map_map];rfl
 rw [e1,h2,e2,hK,List.map_map]
 apply List.map_congr_left
 intro k _
 show (k.1,k.2.1,f k.1++a3N at_ s k.1)=a6v g k
 unfold a6v
 rw [hg]
theorem b5w {bs:List Bx} {K:List (Int×List UInt8×List Fx)} {f:Int→List Fx} (hK:bs.map a2l=K.map (a6v f)):(bs.map a7H).map (·.1)=K.map fun k=>⟨k.1,k.2.1,f k.1⟩:=by
 have e:(bs.map a7H).map (·.1)=(bs.map a2l).map fun k=>(⟨k.1,k.2.1,k.2.2⟩:Sh):=by rw [List.map_map,List.map_map];rfl
 rw [e,hK,List.map_map]
 rfl
theorem b5T {P:Program} {n:Nat} {ds:List Deferred} {E:Fr} {w:World} {X:Type} (Ef:X→Fr) (I:X→World→Prop) {x y:Code} {Q1 Q2:Exit→Act→World→Prop} (hx:WC P x (Exit.then (fun a' w'=>∃ m,Has n ds a' (Ef m)∧I m w') Q2) n ds E w) (hz:∀ m w',I m w'→WC P y Q1 n ds (Ef m) w'):WC P x (Exit.then (y.wp P Q1) Q2) n ds E w:=fun a ha=>
 Code.wp_mono (fun e a' w' q=>by
  cases e with
  |normal=>obtain ⟨m,h1,h2⟩:=q;exact hz m w' h2 a' h1
  |exit i=>exact q
  |goto l=>exact q
  |ret=>exact q
  |panic c=>exact q
  |outgrown=>exact q) (hx a ha)
theorem b5r {P:Program} {n:Nat} {ds:List Deferred} {E:Fr} {w:World} {X:Type} (Ef:X→Fr) (I:X→World→Prop) {x y z:Code} {Q1 Q2 Q3:Exit→Act→World→Prop} (hx:WC P x (Exit.then (y.wp P (Exit.then (fun a' w'=>∃ m,Has n ds a' (Ef m)∧I m w') Q2)) Q3) n ds E w) (hz:∀ m w',I m w'→WC P z Q1 n ds (Ef m) w'):WC P x (Exit.then (y.wp P (Exit.then (z.wp P Q1) Q2)) Q3) n ds E w:=fun a ha=>
 Code.wp_mono (fun e a' w' q=>by
  cases e with
  |normal=>
   refine Code.wp_mono (fun e a2 w2 q2=>?_) q
   cases e with
   |normal=>obtain ⟨m,h1,h2⟩:=q2;exact hz m w2 h2 a2 h1
   |exit i=>exact q2
   |goto l=>exact q2
   |ret=>exact q2
   |panic c=>exact q2
   |outgrown=>exact q2
  |exit i=>exact q
  |goto l=>exact q
  |ret=>exact q
  |panic c=>exact q
  |outgrown=>exact q) (hx a ha)
theorem x6 {P:Program} {n:Nat} {ds:List Deferred} {E:Fr} {w:World} {Q:Exit→Act→World→Prop} {ops:Array Oper} {d:Nat} {ty:TypeId} {pos:String} {after:Array Edge} (i:Nat) {T:Tab} {S:World→Prop} {fuel:Nat} {li:Array Bool} (hT:TabOk P T) {t s:Nat} {fs:List (Nat×Nat×Bool)} {z L:List Value} {parts:Array (Nat×Operand)} {ps:List (Nat×Value)} (hi:ops[i]?=some ⟨some d,.build t parts,ty,pos,after,none⟩) (hs:Region.noSelect ops=true) (hf:Region.free .any ops li i=true) (hr:(Region.ready .any ops li).contains i=true)
  (hQ:∀ c (a:Act) w v,Q (.panic c) (a.put (some d) v) w→Q (.panic c) a w) (hS:S w) (ht:T.get t=some (.st s fs z)) (hp:evP E parts.toList=some ps) (hL:a2a (fun i=>(fs[i]?).map fun f=>(f.1,f.2.1)) z ps=some L) (hd:Nat.blt d n=true) (k:WA P ops Q S fuel (li.setIfInBounds i true) n ds ((d,.agg L.toArray)::E) w):WA P ops Q S (fuel + 1) li n ds E w :=
 a1P i hi hs hf hr (fun c a w h=>hQ c a w _ h) hS (fun a ha=>a3A hT ht hp hL _ ha) hd k
theorem b1w {w:World} {x:Bx} (h:(bxB x).holds w):Loads Try.prog 97 ⟨x.g,0,none⟩ (.agg [.int .i64 x.pg,.string ⟨x.data.toArray⟩,.slice x.p x.fx.length x.c].toArray) w:=by
 unfold bxB at h
 (with_reducible apply Loads.st c8)
 ·exact rfl
 ·exact fun j v hj=>by rw [Nat.zero_add];exact a2P h hj
 ·exact rfl
theorem b2m {A:List Ar} {a:Ar} (h:A.length=0):z9 A a=A++[a]:=by
 obtain rfl:=List.length_eq_zero_iff.1 h
 rfl
theorem a7L {A:List Ar} {k:Nat} {b:Ar} (hk:k + 1=A.length) (hb:A[k]?=some b):A.getLast?=some b:=by
 rw [List.getLast?_eq_getElem?,← hk];exact hb
theorem b2D {A:List Ar} {a b:Ar} {k:Nat} (hk:k + 1=A.length) (hb:A[k]?=some b) (hal:b.alike a):z9 A a=A.set k { b with n:=b.n + a.n }:=by
 unfold z9
 rw [a7L hk hb]
 dsimp only
 rw [if_pos hal]
 obtain ⟨o,rfl⟩:=List.getLast?_eq_some_iff.1 (a7L hk hb)
 rw [List.dropLast_concat]
 rw [List.length_append,List.length_singleton] at hk
 obtain rfl:k=o.length:=by omega
 simp
theorem a8o {A:List Ar} {a b:Ar} {k:Nat} (hk:k + 1=A.length) (hb:A[k]?=some b) (hal:¬ b.alike a):z9 A a=A++[a]:=by
 unfold z9
 rw [a7L hk hb]
 dsimp only
 rw [if_neg hal]
def pgN (b0:Int) (l:List Sg):Nat:=(a0M b0 l).length
theorem b2W {b0:Int} {l:List Sg} {j:Nat} {s:Sg} (h:l[j]?=some s):pgN b0 (l.take (j + 1))=pgN b0 (l.take j) + s.n.toNat:=by
 unfold pgN
 rw [a6y h,List.length_append,a6k]
set_option maxRecDepth 100000 in
set_option maxHeartbeats 8000000 in
theorem b5y {F:Nat→Prop} {w0 w:World} {Γ:List Asr} {go gw da dq:Nat} {qa qs:Option Addr} {en:Int} {A:List Ar} {Lp:List (Sh×Value)} {lv:Value} {os:List Ob} {o:Ob} {b0:Int}
  (hS0:St F w0 w (LyS go qa da qs dq en A Lp++Γ)) (hc:Bs (fps (LyS go qa da qs dq en A Lp)) w ⟨gw,2,none⟩ lv) (hl:Sl (fps (LyS go qa da qs dq en A Lp)) w 7 lv (os.map obC)) (hO:∀ x ∈ os,ImF (fps (LyS go qa da qs dq en A Lp)) w x)
  (hr:∀ x ∈ os,∀ s ∈ x.im.syms,-9223372036854775808≤x.at_ + s.at_∧x.at_ + s.at_≤9223372036854775807) (ho:o ∈ os) (hat:o.at_=b0 * 16) (h0:1≤b0) (h1:b0≤100000) (hs2:o.im.segs.all a2m=true) (hch:Ch o.im.segs) (hpl:Plc o.im) (hrl:o.im.rels.length≤16) (hsl:o.im.segs.length≤6)
  (hA:AOk A) (hAl:A.length≤100000) (hLl:Lp.length≤100000) :
  Fn Try.prog 63 [.pointer (some ⟨gw,0,none⟩),.agg (obC o).toArray,.pointer (some ⟨go,0,none⟩)] w (fun v w'=>(a58 (obP os) o.at_ o.im.rels=false∧v=.int .i64 7∧St (fps (LyS go qa da qs dq en A Lp)) w w' [])∨(a58 (obP os) o.at_ o.im.rels=true∧v=.int .i64 0∧∃ qa' da' qs' dq' N,N.map (·.1)=shO (obP os) o.im b0∧St (fps (LyS go qa da qs dq en A Lp)) w w' (LyS go qa' da' qs' dq' en (a43 A b0 o.im.segs) (Lp++N)++N.map a2N))):=by
 refine j0 (fn:=Try.f63) ⟨Try.func63,by kernel_rfl,by kernel_rfl⟩ (by exact rfl) Try.ntmps63 (by exact rfl) ?_
 have hS:=St.startM hS0
 generalize hG:fps (LyS go qa da qs dq en A Lp)=G at hS hc hl hO ⊢
 clear hS0 hG
 have hOo:=hO o ho
 obtain ⟨I,vn,vs,vy,vr,at_⟩:=o
 dsimp only at hat hs2 hch hpl hrl hsl ⊢
 subst hat
 have hI:ImV w I vn vs vy vr:=hOo.now hS
 have bn:=hI.needs.bound;have bs:=hI.segs.bound;have by_:=hI.syms.bound;have br:=hI.rels.bound;obtain ⟨pn,cn,rfl⟩:=hI.needs.len;obtain ⟨ps,cs,rfl⟩:=hI.segs.len;obtain ⟨py,cy,rfl⟩:=hI.syms.len;obtain ⟨pr,cr,rfl⟩:=hI.rels.len
 unfold obC
 simp only [LyS] at hS
 repeat' (first|(first|((with_reducible apply d6 c8);exact rfl;exact rfl)|((with_reducible apply d9);exact rfl;(((with_reducible apply Loads.st c8);exact rfl;((exact hS.blkR 0 rfl));exact rfl));exact rfl)|((with_reducible apply p7 hS);(iterate 3 exact rfl);intro g w' hS';clear hS;have hS:=hS';clear hS'))|(first|(with_reducible first|apply d8|apply c9|apply d7|apply d5)))
 obtain ⟨g4,hg4⟩:∃ g4,g4=g:=⟨_,rfl⟩
 rw [← hg4] at hS ⊢
 clear hg4 hI
 have hI:ImV _ I (.slice pn I.needs.length cn) (.slice ps I.segs.length cs) (.slice py I.syms.length cy) (.slice pr I.rels.length cr):=hOo.now hS
 ((with_reducible apply e8);exact rfl;exact rfl;exact b06 hI hs2 hch h0 h1;exact rfl;rintro _ w' ⟨r,es,c,bs,rfl,hM,hK,hS'⟩)
 replace hS:=(hS.trans hS').perm List.perm_append_comm
 clear hS'
 simp only [List.cons_append,List.nil_append] at hS
 repeat' (first|(first|((with_reducible apply d6 c8);exact rfl;exact rfl)|((with_reducible apply d9);exact rfl;(((with_reducible apply Loads.sl c8);exact rfl;((exact hS.blkC 0 rfl rfl))));exact rfl))|(first|(with_reducible first|apply d8|apply c9|apply d7|apply d5|apply e7)))
 refine o6 (Γ:=[]) (X:=Nat×List Bx) (fun x=>[(26,.int .i64 (x.1:Nat))]) [0,2,4,7,24,25] rfl (fun x=>.blk g4 [.string ⟨I.name.toArray⟩,.slice pn I.needs.length cn,.slice ps I.segs.length cs,.slice py I.syms.length cy,.slice pr I.rels.length cr,.int .i64 I.entry,.int .i64 (b0 * 16)]::(LyS go qa da qs dq en A Lp++(.obj r (.map es c)::bxs x.2))) (fun x=>x.1≤I.rels.length∧a58 (obP os) (b0 * 16) (I.rels.take x.1)=true∧MapG (.int .i64) es (x.2.map kvB)∧x.2.map a2l=(a0M b0 I.segs).map (a6v (a4X (obP os) (b0 * 16) (I.rels.take x.1)))) (fun x=>I.rels.length - x.1) (0,bs) (by repeat (first|exact Fr.sub_nil _|(apply Fr.sub_cons;exact rfl))) ⟨Nat.zero_le _,rfl,hM,?_⟩ (by simpa only [LyS,List.cons_append,List.nil_append,List.append_nil] using hS) ?_
 ·rw [hK]
  refine (List.map_id' _).symm.trans (List.map_congr_left fun k hk=>?_)
  obtain ⟨s,-,hk⟩:=List.mem_flatMap.1 hk
  obtain ⟨m,-,rfl⟩:=a5G hk
  rfl
 clear hS hM hK
 have hrels:Sl G w 3 (.slice pr I.rels.length cr) (I.rels.map rlC):=hOo.rels
 rintro ⟨i,bs⟩ w1 ⟨hi,hsy,hM,hK⟩ hS
 dsimp only [] at hi hsy hM hK hS ⊢
 simp only [LyS,List.cons_append,List.nil_append,List.append_nil] at hS
 by_cases hlt:i < I.rels.length
 rotate_left
 ·rw [List.take_of_length_le (by omega)] at hsy hK
  repeat' (first|(first|((with_reducible apply d6 c8);exact rfl;exact rfl)|((with_reducible apply d9);exact rfl;(((with_reducible apply Loads.sl c8);exact rfl;((exact hS.blkC 0 rfl rfl))));exact rfl))|(first|(with_reducible first|apply d8|apply c9|apply d7|apply d5|apply e7|apply n5|apply j4|apply i9))|(((with_reducible apply k6);exact rfl;all_goals (intro hb hp;try (exfalso;omega)))))
  refine o6 (Γ:=[]) (X:=Nat×(Option Addr×Nat)×(Option Addr×Nat)×List Ar×List (Sh×Value)) (fun x=>[(65,.int .i64 (x.1:Nat))]) [2,4,7,63,64] rfl (fun x=>.blk g4 [.string ⟨I.name.toArray⟩,.slice pn I.needs.length cn,.slice ps I.segs.length cs,.slice py I.syms.length cy,.slice pr I.rels.length cr,.int .i64 I.entry,.int .i64 (b0 * 16)]::(LyS go x.2.1.1 x.2.1.2 x.2.2.1.1 x.2.2.1.2 en x.2.2.2.1 x.2.2.2.2++(.obj r (.map es c)::bxs bs))) (fun x=>x.1≤I.segs.length∧x.2.2.2.1=a43 A b0 (I.segs.take x.1)∧x.2.2.2.2=Lp++(bs.take (pgN b0 (I.segs.take x.1))).map a7H∧AOk x.2.2.2.1∧x.2.2.2.1.length≤A.length + x.1) (fun x=>I.segs.length - x.1) (0,(qa,da),(qs,dq),A,Lp) (by repeat (first|exact Fr.sub_nil _|(apply Fr.sub_cons;exact rfl))) ⟨Nat.zero_le _,rfl,by simp [pgN,a0M],hA,Nat.le_refl _⟩ (by simpa only [LyS,List.cons_append,List.nil_append,List.append_nil] using hS) ?_
  clear hS
  rintro ⟨j,⟨qa,da⟩,⟨qs,dq⟩,A',L'⟩ w2 ⟨hj,hA',hL',hAo,hAl'⟩ hS
  dsimp only [] at hj hA' hL' hAo hAl' hS ⊢
  simp only [LyS,List.cons_append,List.nil_append,List.append_nil] at hS
  have hbl:bs.length=pgN b0 I.segs:=by
   have:=congrArg List.length hK
   rwa [List.length_map,List.length_map] at this
  by_cases hjt:j < I.segs.length
  rotate_left
  ·rw [List.take_of_length_le (l:=I.segs) (by omega)] at hA' hL'
   rw [List.take_of_length_le (l:=bs) (by omega)] at hL'
   repeat' (first|(((with_reducible apply d6 c8);exact rfl;exact rfl))|(first|(with_reducible first|apply d8|apply c9|apply d7|apply d5|apply n5|apply j5|apply j4|apply i9))|(((with_reducible apply k6);exact rfl;all_goals (intro hb hp;try (exfalso;omega)))))
   (apply j6);(repeat (first|exact ResL.nil|(apply ResL.tmp;exact rfl)))
   refine Or.inr ⟨hsy,rfl,qa,da,qs,dq,bs.map a7H,b5w hK,?_⟩
   rw [← hA',← hL']
   rw [List.map_map]
   refine hS.drop.sub ?_
   exact (List.Sublist.refl (LyS go qa da qs dq en A' L')).append ((List.sublist_append_right _ _).cons _)
  obtain ⟨s,hs⟩:=l8 (l:=I.segs) (i:=j) (by omega)
  have hrow:(I.segs.map sgC)[j]?=some [.int .i64 s.pg,.int .i64 s.n,.string ⟨s.data.toArray⟩,.bool s.wr,.bool s.ex]:=j9 (f:=sgC) hs
  have hsegs:Sl G w 5 (.slice ps I.segs.length cs) (I.segs.map sgC):=hOo.segs
  obtain ⟨b,off,rfl,hro⟩:=hsegs.atF (i:=j) hjt
  obtain ⟨y1,y2,y3,y4,y5⟩:=a6C hs2 hs
  have hquo:(b0 * 16).tdiv 16=b0:=Int.mul_tdiv_cancel _ (by omega)
  repeat' (first|(first|((with_reducible apply m0);exact rfl;exact rfl;omega;omega;exact rfl)|((with_reducible apply d6 c8);exact rfl;exact rfl)|((with_reducible apply d9);exact rfl;(first|((with_reducible apply Loads.sc c8);exact rfl;(first|exact hS.blkC 0 rfl rfl|exact hS.blkC 1 rfl rfl))|((with_reducible apply Loads.st c8);exact rfl;((exact hS.roR (by assumption) (by assumption)));exact rfl));exact rfl)|((with_reducible apply p8 c8);(iterate 3 exact rfl);((exact rfl));((omega));exact rfl)|((with_reducible apply j7 hS c8);(iterate 3 exact rfl);intro g w' hS';clear hS;have hS:=hS';clear hS')|(((with_reducible apply i7 hS c8 (i:=0));(iterate 8 exact rfl);((exact (rfl:_=[_,_,_,_,_])));intro w' hS';simp only [List.set] at hS';clear hS;have hS:=hS';clear hS')))|(first|(with_reducible first|apply d8|apply c9|apply d7|apply d5|apply g8|apply e7))|(((with_reducible apply k6);exact rfl;all_goals (intro hb hp;try (exfalso;omega))))|((with_reducible apply a0s);exact rfl;exact rfl;omega;omega;omega;exact rfl))
  rw [hquo]
  obtain ⟨g5,hg5⟩:∃ g5,g5=g:=⟨_,rfl⟩
  rw [← hg5] at hS ⊢
  clear hg5
  refine b5T (X:=Nat) (fun g6=>[(15,.pointer (some ⟨g5,0,none⟩)),(16,.int .i64 (b0 + s.pg)),(17,.pointer (some ⟨g6,0,none⟩)),(65,.int .i64 (j:Nat)),(2,.pointer (some ⟨go,0,none⟩)),(4,.pointer (some ⟨g4,0,none⟩)),(7,.map (some r)),(63,.slice (some ⟨b,off,none⟩) I.segs.length cs),(64,.int .i64 (I.segs.length:Nat))]) (fun g6 w'=>St G w w' (.blk g6 [.int .i64 (b0 + s.pg),.int .i64 s.n,.int .i64 (rgt s),.bool false]::.blk g5 [.int .i64 s.pg,.int .i64 s.n,.string ⟨s.data.toArray⟩,.bool s.wr,.bool s.ex]::.blk g4 [.string ⟨I.name.toArray⟩,.slice pn I.needs.length cn,.slice (some ⟨b,off,none⟩) I.segs.length cs,.slice py I.syms.length cy,.slice pr I.rels.length cr,.int .i64 I.entry,.int .i64 (b0 * 16)]::(LyS go qa da qs dq en A' L'++(.obj r (.map es c)::bxs bs)))) ?_ ?_
  ·have hrg:=fun w=>b1z s w
   unfold sgC at hrg
   refine a7w 8 rfl hS (by kernel_rfl) ?_
   intro wh hh
   clear hS
   have hS:=hh
   clear hh
   ((with_reducible apply n8 0 c8);exact rfl;kernel_rfl;kernel_rfl;kernel_rfl;exact (fun _ _ _ h=>h);exact hS;exact rfl;exact rfl)
   ((with_reducible apply n8 1 c8);exact rfl;kernel_rfl;kernel_rfl;kernel_rfl;exact (fun _ _ _ h=>h);exact hS;exact rfl;exact rfl)
   ((with_reducible apply v6 2);exact rfl;kernel_rfl;kernel_rfl;kernel_rfl;exact (fun _ _ _ h=>h);exact hS;exact rfl;(intro wd hd;replace hd:St _ _ wd _:=hd;(((with_reducible apply Loads.sc c8);exact rfl;((exact hd.blkC 0 rfl rfl)))));exact rfl)
   ((with_reducible apply v6 3);exact rfl;kernel_rfl;kernel_rfl;kernel_rfl;exact (fun _ _ _ h=>h);exact hS;exact rfl;(intro wd hd;replace hd:St _ _ wd _:=hd;(((with_reducible apply Loads.st c8);exact rfl;((exact hd.blkR 0 rfl));exact rfl)));exact rfl)
   refine a20 (i:=4) (j:=6) (by kernel_rfl) ?_ ?_
   ·refine o7 rfl (a0o (first:=[]) (caps:=[]) rfl rfl (hrg _)) rfl ?_
    rintro _ w' ⟨rfl,hS'⟩
    replace hS:=hS.transA hS'
    simp only [k7] at hS
    clear hS'
    refine ⟨hS,?_⟩
    ((with_reducible apply x6 5 c8);exact rfl;kernel_rfl;kernel_rfl;kernel_rfl;exact (fun _ _ _ _ h=>h);exact hS;exact rfl;exact rfl;((exact (rfl:_=some [_,_,_,_])));exact rfl)
    refine o9 (i:=6) (by kernel_rfl) ?_
    refine o7 rfl (a0r hS c8 rfl rfl) rfl ?_
    rintro _ w' ⟨g,rfl,hS'⟩
    clear hS;have hS:=hS';clear hS'
    refine ⟨hS.drop,?_⟩
    refine o9 (i:=7) (by kernel_rfl) ?_
    refine q9 (Φ:=fun _ w'=>St _ _ w' _) rfl (o8 hS c8 (i:=0) rfl rfl rfl rfl rfl (Nat.le_of_ble_eq_true rfl) (List.all_eq_true.1 rfl)) ?_
    intro _ w' hS'
    simp only [List.set] at hS'
    clear hS;have hS:=hS';clear hS'
    refine ⟨hS.drop,?_⟩
    refine y0 (by kernel_rfl) ?_
    exact a4P g (by repeat (first|exact Fr.sub_nil _|(apply Fr.sub_cons;exact rfl))) hS
   ·refine o7 rfl (a0r hS c8 rfl rfl) rfl ?_
    rintro _ w' ⟨g,rfl,hS'⟩
    clear hS;have hS:=hS';clear hS'
    refine ⟨hS.drop,?_⟩
    refine o9 (i:=4) (by kernel_rfl) ?_
    refine o7 rfl (a0o (first:=[]) (caps:=[]) rfl rfl (hrg _)) rfl ?_
    rintro _ w' ⟨rfl,hS'⟩
    replace hS:=hS.transA hS'
    simp only [k7] at hS
    clear hS'
    refine ⟨hS.drop,?_⟩
    ((with_reducible apply x6 5 c8);exact rfl;kernel_rfl;kernel_rfl;kernel_rfl;exact (fun _ _ _ _ h=>h);exact hS.drop;exact rfl;exact rfl;((exact (rfl:_=some [_,_,_,_])));exact rfl)
    refine o9 (i:=7) (by kernel_rfl) ?_
    refine q9 (Φ:=fun _ w'=>St _ _ w' _) rfl (o8 hS c8 (i:=0) rfl rfl rfl rfl rfl (Nat.le_of_ble_eq_true rfl) (List.all_eq_true.1 rfl)) ?_
    intro _ w' hS'
    simp only [List.set] at hS'
    clear hS;have hS:=hS';clear hS'
    refine ⟨hS.drop,?_⟩
    refine y0 (by kernel_rfl) ?_
    exact a4P g (by repeat (first|exact Fr.sub_nil _|(apply Fr.sub_cons;exact rfl))) hS
  clear hS hro hquo
  intro g6 w3 hS
  simp only [LyS,List.cons_append,List.nil_append,List.append_nil] at hS
  repeat' (first|(first|((with_reducible apply d6 c8);exact rfl;exact rfl)|((with_reducible apply d9);exact rfl;(((with_reducible apply Loads.sl c8);exact rfl;((exact hS.blkC 3 rfl rfl))));exact rfl))|(first|(with_reducible first|apply d8|apply c9|apply d7|apply d5)))
  replace hS:=St.reorderT 7 [4,3,0,1,2,5,6] hS (by decide) rfl
  simp only [k7,List.drop_succ_cons,List.drop_zero] at hS
  refine b5r (X:=Option Addr×Nat×List Ar) (fun _=>[(15,.pointer (some ⟨g5,0,none⟩)),(16,.int .i64 (b0 + s.pg)),(65,.int .i64 (j:Nat)),(2,.pointer (some ⟨go,0,none⟩)),(4,.pointer (some ⟨g4,0,none⟩)),(7,.map (some r)),(63,.slice (some ⟨b,off,none⟩) I.segs.length cs),(64,.int .i64 (I.segs.length:Nat))]) (fun m w'=>m.2.2=z9 A' (a3B b0 s)∧St G w w' (.blk g5 [.int .i64 s.pg,.int .i64 s.n,.string ⟨s.data.toArray⟩,.bool s.wr,.bool s.ex]::.blk g4 [.string ⟨I.name.toArray⟩,.slice pn I.needs.length cn,.slice (some ⟨b,off,none⟩) I.segs.length cs,.slice py I.syms.length cy,.slice pr I.rels.length cr,.int .i64 I.entry,.int .i64 (b0 * 16)]::(LyS go m.1 m.2.1 qs dq en m.2.2 L'++(.obj r (.map es c)::bxs bs)))) ?_ ?_
  ·by_cases hA0:A'.length=0
   ·have hap:=b2m (a:=a3B b0 s) hA0
    (focus ((with_reducible apply m7 _ _ _ (by kernel_rfl) (by kernel_rfl) hS);(repeat' ((first|((with_reducible apply o5 c8);exact rfl;exact rfl)|(first|((with_reducible apply a7A);(iterate 4 exact rfl);(first|exact rfl|assumption);exact rfl)|((with_reducible apply a1K);(iterate 3 exact rfl);all_goals (intro hb hp;try (exfalso;omega)))|((with_reducible apply a1L);exact rfl;(first|exact rfl|assumption);exact rfl;exact rfl)))));all_goals ((with_reducible apply r5);intro w' hS';clear hS;have hS:=hS';clear hS')))
    repeat' (first|(first|(with_reducible first|apply d7|apply d5))|(((with_reducible apply l6);exact rfl;(exact rfl))))
    refine a3o (fun w'=>(Asr.blk go [.slice qa A'.length da,.slice qs L'.length dq,.int .i64 en]).holds w'∧(Asr.blk g6 [.int .i64 (b0 + s.pg),.int .i64 s.n,.int .i64 (rgt s),.bool false]).holds w') 10 11 rfl hS (by kernel_rfl) ?_
    intro w10 hS'
    clear hS;have hS:=hS';clear hS'
    have hH:=And.intro (hS.at_ (i:=1) rfl) (hS.at_ (i:=2) rfl)
    ((with_reducible apply l4 0 c8);exact rfl;kernel_rfl;kernel_rfl;kernel_rfl;exact rfl;exact (fun _ _ _ h=>h);exact Or.inr hH;exact rfl;exact rfl)
    ((with_reducible apply l4 1 c8);exact rfl;kernel_rfl;kernel_rfl;kernel_rfl;exact rfl;exact (fun _ _ _ h=>h);exact Or.inr hH;exact rfl;exact rfl)
    ((with_reducible apply l4 2 c8);exact rfl;kernel_rfl;kernel_rfl;kernel_rfl;exact rfl;exact (fun _ _ _ h=>h);exact Or.inr hH;exact rfl;exact rfl)
    ((with_reducible apply l4 3 c8);exact rfl;kernel_rfl;kernel_rfl;kernel_rfl;exact rfl;exact (fun _ _ _ h=>h);exact Or.inr hH;exact rfl;exact rfl)
    ((with_reducible apply r7 4);exact rfl;kernel_rfl;kernel_rfl;kernel_rfl;kernel_rfl;exact rfl;exact rfl;exact (fun _ _ _ h=>h);exact hH;exact rfl;(intro w2 hw2;((with_reducible apply Loads.sl c8);exact rfl;exact a2P hw2.1 rfl));exact rfl)
    ((with_reducible apply r7 5);exact rfl;kernel_rfl;kernel_rfl;kernel_rfl;kernel_rfl;exact rfl;exact rfl;exact (fun _ _ _ h=>h);exact hH;exact rfl;(intro w2 hw2;((with_reducible apply Loads.st c8);exact rfl;(exact fun j v hj=>by rw [Nat.zero_add];exact a2P hw2.2 hj);exact rfl));exact rfl)
    refine s7 (i:=6) (by kernel_rfl) ?_
    refine t5 rfl (y8 hS c8 rfl rfl rfl rfl rfl rfl) rfl ?_
    rintro _ w' ⟨g9,rfl,hS'⟩
    clear hS;have hS:=hS';clear hS'
    have hH:=And.intro (hS.at_ (i:=2) rfl) (hS.at_ (i:=3) rfl)
    refine ⟨Or.inr (Or.inr hH),?_⟩
    refine s7 (i:=7) (by kernel_rfl) ?_
    refine t5 rfl (a0z hS c8 (i:=1) rfl rfl rfl rfl (hS.rowRo 0 rfl) rfl (by simp only [List.length_map];omega)) rfl ?_
    rintro _ w' ⟨p',c',rfl,hS'⟩
    simp only [List.set] at hS'
    clear hS;have hS:=hS';clear hS'
    have hH:=And.intro (hS.at_ (i:=2) rfl) (hS.at_ (i:=3) rfl)
    refine ⟨Or.inr (Or.inr hH),?_⟩
    ((with_reducible apply l4 8 c8);exact rfl;kernel_rfl;kernel_rfl;kernel_rfl;exact rfl;exact (fun _ _ _ h=>h);exact Or.inr hH;exact rfl;exact rfl)
    ((with_reducible apply l4 9 c8);exact rfl;kernel_rfl;kernel_rfl;kernel_rfl;exact rfl;exact (fun _ _ _ h=>h);exact Or.inr hH;exact rfl;exact rfl)
    refine s7 (i:=10) (by kernel_rfl) ?_
    refine a0L (Φ:=fun _ w'=>St _ _ w' _) rfl (o8 hS c8 (i:=2) rfl rfl rfl rfl rfl (Nat.le_of_ble_eq_true rfl) (by intro u hu;simp [Value.cells] at hu;subst hu;rfl)) ?_
    intro _ w' hS'
    simp only [List.set] at hS'
    clear hS;have hS:=hS';clear hS'
    refine ⟨Or.inl rfl,?_⟩
    refine a1a (by kernel_rfl) ?_
    repeat' (fail)
    replace hS:=St.reorderT 8 [4,5,2,1,6,7] hS (by decide) rfl
    simp only [k7,List.drop_succ_cons,List.drop_zero] at hS
    rw [List.length_map] at hS
    refine a4P (p',c',A'++[a3B b0 s]) (by repeat (first|exact Fr.sub_nil _|(apply Fr.sub_cons;exact rfl))) ⟨hap.symm,?_⟩
    simp only [LyS,List.cons_append,List.nil_append,List.length_append,List.map_append,List.length_cons,List.length_nil,Nat.zero_add]
    exact hS
   ·obtain ⟨k,hk⟩:∃ k,k + 1=A'.length:=⟨A'.length - 1,by omega⟩
    have hix:((k:Nat):Int)=(A'.length:Int) - 1:=by omega
    have hkl:k < A'.length:=by omega
    obtain ⟨y,hy⟩:=l8 (l:=A') (i:=k) (by omega)
    have hrow:(A'.map arC)[k]?=some [.int .i64 y.pg,.int .i64 y.n,.int .i64 y.prot,.bool y.z]:=j9 (f:=arC) hy
    obtain ⟨u1,u2,u3,u4,u5,u6⟩:=hAo y (List.mem_of_getElem? hy)
    rcases hS.rowForm 0 rfl with ⟨h1,h2⟩|⟨ba,cap,h1,h2,h3⟩
    ·exfalso
     simp only [Value.slice.injEq] at h1
     omega
    simp only [Value.slice.injEq] at h1
    obtain ⟨rfl,-,rfl⟩:=h1
    clear h2 h3
    by_cases e1:y.pg + y.n=b0 + s.pg
    ·have d1:decide (y.pg + y.n=b0 + s.pg)=true:=decide_eq_true e1
     by_cases e2:y.prot=rgt s
     ·have d2:decide (y.prot=rgt s)=true:=decide_eq_true e2
      have hap:=b2D (a:=a3B b0 s) hk hy ⟨e1,e2,u1⟩
      (focus ((with_reducible apply m7 _ _ _ (by kernel_rfl) (by kernel_rfl) hS);(repeat' ((first|((with_reducible apply a1v);exact rfl;exact rfl;omega;omega;exact rfl)|((with_reducible apply a3G);exact rfl;exact rfl;omega;omega;exact rfl)|((with_reducible apply o5 c8);exact rfl;exact rfl)|((with_reducible apply n6);exact rfl;(intro wd hd;replace hd:St _ _ wd _:=hd;(first|((with_reducible apply Loads.sc c8);exact rfl;(first|exact hd.blkC 2 rfl rfl|exact hd.rowC0 0 rfl (by assumption) rfl|exact hd.rowCj 0 rfl (by assumption) rfl))|((with_reducible apply Loads.sl c8);exact rfl;((exact hd.blkC 1 rfl rfl)))));exact rfl)|((with_reducible apply a05 c8);(iterate 3 exact rfl);((assumption));((omega));exact rfl)|(first|((with_reducible apply a3H);(iterate 4 exact rfl);(assumption))|((with_reducible apply a1K);(iterate 3 exact rfl);all_goals (intro hb hp;try (exfalso;omega)))|((with_reducible apply a1b);exact rfl;((assumption));exact rfl;exact rfl)))));all_goals ((with_reducible apply r5);intro w' hS';clear hS;have hS:=hS';clear hS')))
      repeat' (first|(first|(with_reducible first|apply d7|apply d5))|(((with_reducible apply k9);exact rfl;(assumption))))
      (focus ((with_reducible apply a0X _ _ _ 14 (by kernel_rfl) (by kernel_rfl) hS);(simp only [List.take_succ_cons,List.take_zero,List.drop_succ_cons,List.drop_zero]);(repeat' ((first|((with_reducible apply a1v);exact rfl;exact rfl;omega;omega;exact rfl)|((with_reducible apply a3G);exact rfl;exact rfl;omega;omega;exact rfl)|((with_reducible apply o5 c8);exact rfl;exact rfl)|((with_reducible apply n6);exact rfl;(intro wd hd;replace hd:St _ _ wd _:=hd;(first|((with_reducible apply Loads.sc c8);exact rfl;(first|exact hd.blkC 3 rfl rfl|exact hd.rowCj 0 rfl (by assumption) rfl))|((with_reducible apply Loads.sl c8);exact rfl;((exact hd.blkC 1 rfl rfl)))));exact rfl)|((with_reducible apply a05 c8);(iterate 3 exact rfl);((assumption));((omega));exact rfl))));all_goals ((with_reducible apply r5);intro w' hS';clear hS;have hS:=hS';clear hS')))
      repeat' (first|((with_reducible apply d7))|((with_reducible apply a0i hS c8 (i:=0));(iterate 4 exact rfl);assumption;(iterate 5 exact rfl);intro w' hS';simp only [List.set] at hS';clear hS;have hS:=hS';clear hS'))
      replace hS:=St.reorderT 7 [3,4,1,0,5,6] hS (by decide) rfl
      simp only [k7,List.drop_succ_cons,List.drop_zero] at hS
      refine a4P (some ⟨ba,0,none⟩,da,A'.set k { y with n:=y.n + s.n }) (by repeat (first|exact Fr.sub_nil _|(apply Fr.sub_cons;exact rfl))) ⟨hap.symm,?_⟩
      simp only [LyS,List.cons_append,List.nil_append,List.length_set,List.map_set]
      exact hS
     ·have d2:decide (y.prot=rgt s)=false:=decide_eq_false e2
      have hap:=a8o (a:=a3B b0 s) hk hy (fun h=>e2 h.2.1)
      (focus ((with_reducible apply m7 _ _ _ (by kernel_rfl) (by kernel_rfl) hS);(repeat' ((first|((with_reducible apply a1v);exact rfl;exact rfl;omega;omega;exact rfl)|((with_reducible apply a3G);exact rfl;exact rfl;omega;omega;exact rfl)|((with_reducible apply o5 c8);exact rfl;exact rfl)|((with_reducible apply n6);exact rfl;(intro wd hd;replace hd:St _ _ wd _:=hd;(first|((with_reducible apply Loads.sc c8);exact rfl;(first|exact hd.blkC 2 rfl rfl|exact hd.rowC0 0 rfl (by assumption) rfl|exact hd.rowCj 0 rfl (by assumption) rfl))|((with_reducible apply Loads.sl c8);exact rfl;((exact hd.blkC 1 rfl rfl)))));exact rfl)|((with_reducible apply a05 c8);(iterate 3 exact rfl);((assumption));((omega));exact rfl)|(first|((with_reducible apply a3H);(iterate 4 exact rfl);(assumption))|((with_reducible apply a1K);(iterate 3 exact rfl);all_goals (intro hb hp;try (exfalso;omega)))|((with_reducible apply a1b);exact rfl;((assumption));exact rfl;exact rfl)))));all_goals ((with_reducible apply r5);intro w' hS';clear hS;have hS:=hS';clear hS')))
      repeat' (first|(first|(with_reducible first|apply d7|apply d5))|(((with_reducible apply l6);exact rfl;(assumption))))
      refine a3o (fun w'=>(Asr.blk go [.slice (some ⟨ba,0,none⟩) A'.length da,.slice qs L'.length dq,.int .i64 en]).holds w'∧(Asr.blk g6 [.int .i64 (b0 + s.pg),.int .i64 s.n,.int .i64 (rgt s),.bool false]).holds w') 10 11 rfl hS (by kernel_rfl) ?_
      intro w10 hS'
      clear hS;have hS:=hS';clear hS'
      have hH:=And.intro (hS.at_ (i:=1) rfl) (hS.at_ (i:=2) rfl)
      ((with_reducible apply l4 0 c8);exact rfl;kernel_rfl;kernel_rfl;kernel_rfl;exact rfl;exact (fun _ _ _ h=>h);exact Or.inr hH;exact rfl;exact rfl)
      ((with_reducible apply l4 1 c8);exact rfl;kernel_rfl;kernel_rfl;kernel_rfl;exact rfl;exact (fun _ _ _ h=>h);exact Or.inr hH;exact rfl;exact rfl)
      ((with_reducible apply l4 2 c8);exact rfl;kernel_rfl;kernel_rfl;kernel_rfl;exact rfl;exact (fun _ _ _ h=>h);exact Or.inr hH;exact rfl;exact rfl)
      ((with_reducible apply l4 3 c8);exact rfl;kernel_rfl;kernel_rfl;kernel_rfl;exact rfl;exact (fun _ _ _ h=>h);exact Or.inr hH;exact rfl;exact rfl)
      ((with_reducible apply r7 4);exact rfl;kernel_rfl;kernel_rfl;kernel_rfl;kernel_rfl;exact rfl;exact rfl;exact (fun _ _ _ h=>h);exact hH;exact rfl;(intro w2 hw2;((with_reducible apply Loads.sl c8);exact rfl;exact a2P hw2.1 rfl));exact rfl)
      ((with_reducible apply r7 5);exact rfl;kernel_rfl;kernel_rfl;kernel_rfl;kernel_rfl;exact rfl;exact rfl;exact (fun _ _ _ h=>h);exact hH;exact rfl;(intro w2 hw2;((with_reducible apply Loads.st c8);exact rfl;(exact fun j v hj=>by rw [Nat.zero_add];exact a2P hw2.2 hj);exact rfl));exact rfl)
      refine s7 (i:=6) (by kernel_rfl) ?_
      refine t5 rfl (y8 hS c8 rfl rfl rfl rfl rfl rfl) rfl ?_
      rintro _ w' ⟨g9,rfl,hS'⟩
      clear hS;have hS:=hS';clear hS'
      have hH:=And.intro (hS.at_ (i:=2) rfl) (hS.at_ (i:=3) rfl)
      refine ⟨Or.inr (Or.inr hH),?_⟩
      refine s7 (i:=7) (by kernel_rfl) ?_
      refine t5 rfl (a0z hS c8 (i:=1) rfl rfl rfl rfl (hS.rowRo 0 rfl) rfl (by simp only [List.length_map];omega)) rfl ?_
      rintro _ w' ⟨p',c',rfl,hS'⟩
      simp only [List.set] at hS'
      clear hS;have hS:=hS';clear hS'
      have hH:=And.intro (hS.at_ (i:=2) rfl) (hS.at_ (i:=3) rfl)
      refine ⟨Or.inr (Or.inr hH),?_⟩
      ((with_reducible apply l4 8 c8);exact rfl;kernel_rfl;kernel_rfl;kernel_rfl;exact rfl;exact (fun _ _ _ h=>h);exact Or.inr hH;exact rfl;exact rfl)
      ((with_reducible apply l4 9 c8);exact rfl;kernel_rfl;kernel_rfl;kernel_rfl;exact rfl;exact (fun _ _ _ h=>h);exact Or.inr hH;exact rfl;exact rfl)
      refine s7 (i:=10) (by kernel_rfl) ?_
      refine a0L (Φ:=fun _ w'=>St _ _ w' _) rfl (o8 hS c8 (i:=2) rfl rfl rfl rfl rfl (Nat.le_of_ble_eq_true rfl) (by intro u hu;simp [Value.cells] at hu;subst hu;rfl)) ?_
      intro _ w' hS'
      simp only [List.set] at hS'
      clear hS;have hS:=hS';clear hS'
      refine ⟨Or.inl rfl,?_⟩
      refine a1a (by kernel_rfl) ?_
      repeat' (fail)
      replace hS:=St.reorderT 8 [4,5,2,1,6,7] hS (by decide) rfl
      simp only [k7,List.drop_succ_cons,List.drop_zero] at hS
      rw [List.length_map] at hS
      refine a4P (p',c',A'++[a3B b0 s]) (by repeat (first|exact Fr.sub_nil _|(apply Fr.sub_cons;exact rfl))) ⟨hap.symm,?_⟩
      simp only [LyS,List.cons_append,List.nil_append,List.length_append,List.map_append,List.length_cons,List.length_nil,Nat.zero_add]
      exact hS
    ·have d1:decide (y.pg + y.n=b0 + s.pg)=false:=decide_eq_false e1
     have hap:=a8o (a:=a3B b0 s) hk hy (fun h=>e1 h.1)
     (focus ((with_reducible apply m7 _ _ _ (by kernel_rfl) (by kernel_rfl) hS);(repeat' ((first|((with_reducible apply a1v);exact rfl;exact rfl;omega;omega;exact rfl)|((with_reducible apply a3G);exact rfl;exact rfl;omega;omega;exact rfl)|((with_reducible apply o5 c8);exact rfl;exact rfl)|((with_reducible apply n6);exact rfl;(intro wd hd;replace hd:St _ _ wd _:=hd;(first|((with_reducible apply Loads.sc c8);exact rfl;(first|exact hd.rowC0 0 rfl (by assumption) rfl|exact hd.rowCj 0 rfl (by assumption) rfl))|((with_reducible apply Loads.sl c8);exact rfl;((exact hd.blkC 1 rfl rfl)))));exact rfl)|((with_reducible apply a05 c8);(iterate 3 exact rfl);((assumption));((omega));exact rfl)|(first|((with_reducible apply a3H);(iterate 4 exact rfl);(assumption))|((with_reducible apply a7A);(iterate 4 exact rfl);((assumption));exact rfl)|((with_reducible apply a1K);(iterate 3 exact rfl);all_goals (intro hb hp;try (exfalso;omega)))|((with_reducible apply a1b);exact rfl;((assumption));exact rfl;exact rfl)|((with_reducible apply a1L);exact rfl;((assumption));exact rfl;exact rfl)))));all_goals ((with_reducible apply r5);intro w' hS';clear hS;have hS:=hS';clear hS')))
     repeat' (first|(first|(with_reducible first|apply d7|apply d5))|(((with_reducible apply l6);exact rfl;(exact rfl))))
     refine a3o (fun w'=>(Asr.blk go [.slice (some ⟨ba,0,none⟩) A'.length da,.slice qs L'.length dq,.int .i64 en]).holds w'∧(Asr.blk g6 [.int .i64 (b0 + s.pg),.int .i64 s.n,.int .i64 (rgt s),.bool false]).holds w') 10 11 rfl hS (by kernel_rfl) ?_
     intro w10 hS'
     clear hS;have hS:=hS';clear hS'
     have hH:=And.intro (hS.at_ (i:=1) rfl) (hS.at_ (i:=2) rfl)
     ((with_reducible apply l4 0 c8);exact rfl;kernel_rfl;kernel_rfl;kernel_rfl;exact rfl;exact (fun _ _ _ h=>h);exact Or.inr hH;exact rfl;exact rfl)
     ((with_reducible apply l4 1 c8);exact rfl;kernel_rfl;kernel_rfl;kernel_rfl;exact rfl;exact (fun _ _ _ h=>h);exact Or.inr hH;exact rfl;exact rfl)
     ((with_reducible apply l4 2 c8);exact rfl;kernel_rfl;kernel_rfl;kernel_rfl;exact rfl;exact (fun _ _ _ h=>h);exact Or.inr hH;exact rfl;exact rfl)
     ((with_reducible apply l4 3 c8);exact rfl;kernel_rfl;kernel_rfl;kernel_rfl;exact rfl;exact (fun _ _ _ h=>h);exact Or.inr hH;exact rfl;exact rfl)
     ((with_reducible apply r7 4);exact rfl;kernel_rfl;kernel_rfl;kernel_rfl;kernel_rfl;exact rfl;exact rfl;exact (fun _ _ _ h=>h);exact hH;exact rfl;(intro w2 hw2;((with_reducible apply Loads.sl c8);exact rfl;exact a2P hw2.1 rfl));exact rfl)
     ((with_reducible apply r7 5);exact rfl;kernel_rfl;kernel_rfl;kernel_rfl;kernel_rfl;exact rfl;exact rfl;exact (fun _ _ _ h=>h);exact hH;exact rfl;(intro w2 hw2;((with_reducible apply Loads.st c8);exact rfl;(exact fun j v hj=>by rw [Nat.zero_add];exact a2P hw2.2 hj);exact rfl));exact rfl)
     refine s7 (i:=6) (by kernel_rfl) ?_
     refine t5 rfl (y8 hS c8 rfl rfl rfl rfl rfl rfl) rfl ?_
     rintro _ w' ⟨g9,rfl,hS'⟩
     clear hS;have hS:=hS';clear hS'
     have hH:=And.intro (hS.at_ (i:=2) rfl) (hS.at_ (i:=3) rfl)
     refine ⟨Or.inr (Or.inr hH),?_⟩
     refine s7 (i:=7) (by kernel_rfl) ?_
     refine t5 rfl (a0z hS c8 (i:=1) rfl rfl rfl rfl (hS.rowRo 0 rfl) rfl (by simp only [List.length_map];omega)) rfl ?_
     rintro _ w' ⟨p',c',rfl,hS'⟩
     simp only [List.set] at hS'
     clear hS;have hS:=hS';clear hS'
     have hH:=And.intro (hS.at_ (i:=2) rfl) (hS.at_ (i:=3) rfl)
     refine ⟨Or.inr (Or.inr hH),?_⟩
     ((with_reducible apply l4 8 c8);exact rfl;kernel_rfl;kernel_rfl;kernel_rfl;exact rfl;exact (fun _ _ _ h=>h);exact Or.inr hH;exact rfl;exact rfl)
     ((with_reducible apply l4 9 c8);exact rfl;kernel_rfl;kernel_rfl;kernel_rfl;exact rfl;exact (fun _ _ _ h=>h);exact Or.inr hH;exact rfl;exact rfl)
     refine s7 (i:=10) (by kernel_rfl) ?_
     refine a0L (Φ:=fun _ w'=>St _ _ w' _) rfl (o8 hS c8 (i:=2) rfl rfl rfl rfl rfl (Nat.le_of_ble_eq_true rfl) (by intro u hu;simp [Value.cells] at hu;subst hu;rfl)) ?_
     intro _ w' hS'
     simp only [List.set] at hS'
     clear hS;have hS:=hS';clear hS'
     refine ⟨Or.inl rfl,?_⟩
     refine a1a (by kernel_rfl) ?_
     repeat' (fail)
     replace hS:=St.reorderT 8 [4,5,2,1,6,7] hS (by decide) rfl
     simp only [k7,List.drop_succ_cons,List.drop_zero] at hS
     rw [List.length_map] at hS
     refine a4P (p',c',A'++[a3B b0 s]) (by repeat (first|exact Fr.sub_nil _|(apply Fr.sub_cons;exact rfl))) ⟨hap.symm,?_⟩
     simp only [LyS,List.cons_append,List.nil_append,List.length_append,List.map_append,List.length_cons,List.length_nil,Nat.zero_add]
     exact hS
  rintro ⟨qa',da',A2⟩ w4 ⟨hA2,hS⟩
  dsimp only [] at hA2 hS ⊢
  have hA3:A2=a43 A b0 (I.segs.take (j + 1)):=by rw [hA2,hA',b0O hs]
  have hrg:0≤rgt s∧rgt s≤3:=by unfold rgt;split <;> split <;> decide
  have hA4:AOk A2:=by
   rw [hA2]
   refine hAo.step ⟨rfl,?_,?_,?_,hrg⟩
   ·show 0≤b0 + s.pg
    omega
   ·show 0≤s.n
    omega
   ·show b0 + s.pg + s.n≤200000
    omega
  have hA5:A2.length≤A.length + (j + 1):=by
   have:=a7F A' (a3B b0 s)
   rw [hA2]
   omega
  clear hA2 hA' hAo hAl' hA
  simp only [LyS,List.cons_append,List.nil_append,List.append_nil] at hS
  repeat' (first|(first|((with_reducible apply d6 c8);exact rfl;exact rfl)|((with_reducible apply d9);exact rfl;(((with_reducible apply Loads.sc c8);exact rfl;((exact hS.blkC 0 rfl rfl))));exact rfl))|(first|(with_reducible first|apply d8|apply c9|apply d7|apply d5|apply e7)))
  obtain ⟨m,hm⟩:∃ m:Nat,(m:Int)=s.n:=⟨s.n.toNat,by omega⟩
  refine o6 (Γ:=[]) (X:=Nat×(Option Addr×Nat)×List (Sh×Value)) (fun x=>[(151,.int .i64 (x.1:Nat))]) [16,65,2,4,7,63,64,150] rfl (fun x=>.blk g4 [.string ⟨I.name.toArray⟩,.slice pn I.needs.length cn,.slice (some ⟨b,off,none⟩) I.segs.length cs,.slice py I.syms.length cy,.slice pr I.rels.length cr,.int .i64 I.entry,.int .i64 (b0 * 16)]::(LyS go qa' da' x.2.1.1 x.2.1.2 en A2 x.2.2++(.obj r (.map es c)::bxs bs))) (fun x=>x.1≤m∧x.2.2=Lp++(bs.take (pgN b0 (I.segs.take j) + x.1)).map a7H) (fun x=>m - x.1) (0,(qs,dq),L') (by repeat (first|exact Fr.sub_nil _|(apply Fr.sub_cons;exact rfl))) ⟨Nat.zero_le _,hL'⟩ (by simpa only [LyS,List.cons_append,List.nil_append,List.append_nil] using hS.drop) ?_
  clear hS hL'
  rintro ⟨n,⟨qs,dq⟩,L'⟩ w5 ⟨hn,hL'⟩ hS
  dsimp only [] at hn hL' hS ⊢
  simp only [LyS,List.cons_append,List.nil_append,List.append_nil] at hS
  by_cases hnt:n < m
  rotate_left
  ·obtain rfl:n=m:=by omega
   repeat' (first|(first|((with_reducible apply m0);exact rfl;exact rfl;omega;omega;exact rfl)|((with_reducible apply d6 c8);exact rfl;exact rfl))|(first|(with_reducible first|apply d8|apply c9|apply d7|apply d5|apply n5|apply j4|apply k8|apply i9))|(((with_reducible apply k6);exact rfl;all_goals (intro hb hp;try (exfalso;omega)))))
   refine m6 (j + 1,(qa',da'),(qs,dq),A2,L') (by repeat (first|exact Fr.sub_nil _|(apply Fr.sub_cons;exact rfl))) ⟨by show j + 1≤_;omega,hA3,?_,hA4,hA5⟩ (by simpa only [LyS,List.cons_append,List.nil_append,List.append_nil] using hS) (by show _ - (j + 1) < _ - j;omega)
   show L'=Lp++(bs.take (pgN b0 (I.segs.take (j + 1)))).map a7H
   rw [hL',b2W hs,show s.n.toNat=n by omega]
  obtain ⟨x,hx,hxk⟩:∃ x:Bx,bs[pgN b0 (I.segs.take j) + n]?=some x∧x.pg=b0 + s.pg + n:=by
   have h1:=b3Z (b0:=b0) hs (show n < s.n.toNat by omega)
   have h2:=congrArg (fun l:List (Int×List UInt8×List Fx)=>l[pgN b0 (I.segs.take j) + n]?) hK
   rw [List.getElem?_map,List.getElem?_map] at h2
   unfold pgN at h2 ⊢
   rw [h1] at h2
   cases h3:bs[(a0M b0 (I.segs.take j)).length + n]? with
   |none=>rw [h3] at h2;cases h2
   |some x=>
    rw [h3] at h2
    simp only [Option.map_some,Option.some.injEq] at h2
    exact ⟨x,rfl,congrArg (·.1) h2⟩
  have hxm:=List.mem_of_getElem? hx
  have hkv:(Value.int .i64 (b0 + s.pg + n),Value.pointer (some ⟨x.g,0,none⟩)) ∈ bs.map kvB:=List.mem_map.2 ⟨x,hxm,by unfold kvB;rw [hxk]⟩
  have hLl2:L'.length≤101540:=by
   have h1:=a5M (b0:=b0) hs2
   rw [hL',List.length_append,List.length_map,List.length_take]
   unfold pgN at hbl
   omega
  repeat' (first|(((with_reducible apply d6 c8);exact rfl;exact rfl))|(first|(with_reducible first|apply d8|apply c9|apply d7|apply d5|apply g8|apply e7))|(((with_reducible apply k6);exact rfl;all_goals (intro hb hp;try (exfalso;omega)))))
  refine a3o (fun w'=>(Asr.blk go [.slice qa' A2.length da',.slice qs L'.length dq,.int .i64 en]).holds w') 16 17 rfl hS (by kernel_rfl) ?_
  intro w10 hS'
  clear hS;have hS:=hS';clear hS'
  have hH:=hS.at_ (i:=1) rfl
  ((with_reducible apply l4 0 c8);exact rfl;kernel_rfl;kernel_rfl;kernel_rfl;exact rfl;exact (fun _ _ _ h=>h);exact Or.inr hH;exact rfl;exact rfl)
  ((with_reducible apply l4 1 c8);exact rfl;kernel_rfl;kernel_rfl;kernel_rfl;exact rfl;exact (fun _ _ _ h=>h);exact Or.inr hH;exact rfl;exact rfl)
  ((with_reducible apply l4 2 c8);exact rfl;kernel_rfl;kernel_rfl;kernel_rfl;exact rfl;exact (fun _ _ _ h=>h);exact Or.inr hH;exact rfl;exact rfl)
  ((with_reducible apply l4 3 c8);exact rfl;kernel_rfl;kernel_rfl;kernel_rfl;exact rfl;exact (fun _ _ _ h=>h);exact Or.inr hH;exact rfl;exact rfl)
  ((with_reducible apply r7 4);exact rfl;kernel_rfl;kernel_rfl;kernel_rfl;kernel_rfl;exact rfl;exact rfl;exact (fun _ _ _ h=>h);exact hH;exact rfl;(intro w2 hw2;((with_reducible apply Loads.sl c8);exact rfl;exact a2P hw2 rfl));exact rfl)
  ((with_reducible apply l4 5 c8);exact rfl;kernel_rfl;kernel_rfl;kernel_rfl;exact rfl;exact (fun _ _ _ h=>h);exact Or.inr hH;exact rfl;exact rfl)
  ((with_reducible apply l4 6 c8);exact rfl;kernel_rfl;kernel_rfl;kernel_rfl;exact rfl;exact (fun _ _ _ h=>h);exact Or.inr hH;exact rfl;exact rfl)
  ((with_reducible apply l4 7 c8);exact rfl;kernel_rfl;kernel_rfl;kernel_rfl;exact rfl;exact (fun _ _ _ h=>h);exact Or.inr hH;exact rfl;exact rfl)
  refine s7 (i:=8) (by kernel_rfl) ?_
  refine t5 rfl (Gets.of_runs fun a ha=>a7X rfl rfl (by omega) (by omega) a ha _) rfl ?_
  rintro _ _ ⟨rfl,rfl⟩
  refine ⟨Or.inr (Or.inr hH),?_⟩
  refine s7 (i:=9) (by kernel_rfl) ?_
  refine t5 rfl (a9U hS (i:=4) a3r a7N rfl rfl rfl hM (k:=.int .i64 (b0 + s.pg + n)) rfl hkv false) rfl ?_
  rintro _ _ ⟨rfl,rfl⟩
  refine ⟨Or.inr (Or.inr hH),?_⟩
  refine s7 (i:=10) (by kernel_rfl) ?_
  refine t5 rfl (Gets.pure (v:=.pointer (some ⟨x.g,0,none⟩)) c8 (by exact rfl)) rfl ?_
  rintro _ _ ⟨rfl,rfl⟩
  refine ⟨Or.inr (Or.inr hH),?_⟩
  have hxh:=hS.holds (bxB x) (by simp only [List.mem_cons,bxs,List.mem_append];exact Or.inr (Or.inr (Or.inr (Or.inr (Or.inr (Or.inl (List.mem_map.2 ⟨x,hxm,rfl⟩)))))))
  refine s7 (i:=11) (by kernel_rfl) ?_
  refine t5 rfl (a7P rfl (b1w hxh)) rfl ?_
  rintro _ _ ⟨rfl,rfl⟩
  refine ⟨Or.inr (Or.inr hH),?_⟩
  clear hxh
  refine s7 (i:=12) (by kernel_rfl) ?_
  refine t5 rfl (y8 hS c8 rfl rfl rfl rfl rfl rfl) rfl ?_
  rintro _ w' ⟨g9,rfl,hS'⟩
  clear hS;have hS:=hS';clear hS'
  have hH:=hS.at_ (i:=2) rfl
  refine ⟨Or.inr (Or.inr hH),?_⟩
  refine s7 (i:=13) (by kernel_rfl) ?_
  refine t5 rfl (a0z hS c8 (i:=4) rfl rfl rfl rfl (hS.rowRo 0 rfl) rfl (by simp only [List.length_map];omega)) rfl ?_
  rintro _ w' ⟨p',c',rfl,hS'⟩
  simp only [List.set] at hS'
  clear hS;have hS:=hS';clear hS'
  have hH:=hS.at_ (i:=2) rfl
  refine ⟨Or.inr (Or.inr hH),?_⟩
  ((with_reducible apply l4 14 c8);exact rfl;kernel_rfl;kernel_rfl;kernel_rfl;exact rfl;exact (fun _ _ _ h=>h);exact Or.inr hH;exact rfl;exact rfl)
  ((with_reducible apply l4 15 c8);exact rfl;kernel_rfl;kernel_rfl;kernel_rfl;exact rfl;exact (fun _ _ _ h=>h);exact Or.inr hH;exact rfl;exact rfl)
  refine s7 (i:=16) (by kernel_rfl) ?_
  refine a0L (Φ:=fun _ w'=>St _ _ w' _) rfl (o8 hS c8 (i:=2) rfl rfl rfl rfl rfl (Nat.le_of_ble_eq_true rfl) (by intro u hu;simp [Value.cells] at hu;subst hu;rfl)) ?_
  intro _ w' hS'
  simp only [List.set] at hS'
  clear hS;have hS:=hS';clear hS'
  refine ⟨Or.inl rfl,?_⟩
  refine a1a (by kernel_rfl) ?_
  repeat' (first|(first|((with_reducible apply m0);exact rfl;exact rfl;omega;omega;exact rfl)|((with_reducible apply d6 c8);exact rfl;exact rfl))|(first|(with_reducible first|apply c9|apply d7|apply d5|apply k8)))
  rw [List.length_map] at hS
  have hS2:=hS.drop
  clear hS
  refine m6 (n + 1,(p',c'),L'++[a7H x]) (by repeat (first|exact Fr.sub_nil _|(apply Fr.sub_cons;exact rfl))) ⟨by show n + 1≤m;omega,?_⟩ ?_ (by show m - (n + 1) < m - n;omega)
  ·show L'++[a7H x]=Lp++(bs.take (pgN b0 (I.segs.take j) + (n + 1))).map a7H
   rw [hL',← Nat.add_assoc,List.take_add_one,hx]
   simp only [Option.toList_some,List.map_append,List.map_cons,List.map_nil,List.append_assoc]
  ·simp only [LyS,List.cons_append,List.nil_append,List.append_nil,List.length_append,List.map_append,List.length_cons,List.length_nil,Nat.zero_add]
   exact hS2
 obtain ⟨x,hx⟩:=l8 (l:=I.rels) (i:=i) (by omega)
 have hrow:(I.rels.map rlC)[i]?=some [.int .i64 x.at_,.string ⟨x.name.toArray⟩,.int .i64 x.add]:=j9 (f:=rlC) hx
 obtain ⟨b,off,rfl,hro⟩:=hrels.atF (i:=i) hlt
 obtain ⟨⟨x1,x2⟩,x3⟩:=hpl.rels i x hx
 obtain ⟨k1,k2,k3⟩:=b3P hK
 have hnd:(bs.map (·.pg)).Nodup:=by rw [k1];exact b1f hch hs2
 have hpp:∀ d:Nat,d < 8→∃ b ∈ bs,b.pg=(b0 * 16 + x.at_ + d) / 16:=fun d hd=>by
  obtain ⟨k,hk,e⟩:=b1o (b0:=b0) (x3 d (by omega) (by omega))
  obtain ⟨b,hb,e2⟩:=k2 k hk
  exact ⟨b,hb,by rw [e2,e];congr 1;omega⟩
 have hfx:∀ b ∈ bs,b.fx.length≤1000000:=fun b hb=>by
  obtain ⟨k,-,-,-,e⟩:=k3 b hb
  have:=b04 (obP os) (b0 * 16) (I.rels.take i) k.1
  rw [List.length_take] at this
  rw [e]
  omega
 have hnext:∀ (s:List UInt8) (bs2:List Bx),a2c (obP os) (b0 * 16) x=some s→bs2.map gK=bs.map (gF (b0 * 16 + x.at_) s)→i + 1≤I.rels.length∧a58 (obP os) (b0 * 16) (I.rels.take (i + 1))=true∧MapG (.int .i64) es (bs2.map kvB)∧bs2.map a2l=(a0M b0 I.segs).map (a6v (a4X (obP os) (b0 * 16) (I.rels.take (i + 1)))):=fun s bs2 hb h2=>by
  refine ⟨by omega,t0 hsy hx (by rw [hb];rfl),?_,b5b hK h2 fun p=>?_⟩
  ·rw [b0o (f:=fun b=>(b.pg,b.data,b.fx++a3N (b0 * 16 + x.at_) s b.pg)) (fun _=>rfl) h2];exact hM
  ·rw [a9M hx]
   unfold a7I
   rw [hb]
   rfl
 by_cases hn:x.name=[]
 ·have hd:(!decide (x.name=[]))=false:=by rw [decide_eq_true hn];rfl
  have hby:a2c (obP os) (b0 * 16) x=some (leB (IntKind.i64.wrap (b0 * 16 + x.add)) 8):=by unfold a2c;rw [if_pos hn];rfl
  repeat' (first|(first|((with_reducible apply m0);exact rfl;exact rfl;omega;omega;exact rfl)|((with_reducible apply d6 c8);exact rfl;exact rfl)|((with_reducible apply d9);exact rfl;(first|((with_reducible apply Loads.sc c8);exact rfl;(first|exact hS.blkC 0 rfl rfl|exact hS.blkC 1 rfl rfl))|((with_reducible apply Loads.st c8);exact rfl;((exact hS.roR (by assumption) (by assumption)));exact rfl));exact rfl)|((with_reducible apply p8 c8);(iterate 3 exact rfl);((exact rfl));((omega));exact rfl)|((with_reducible apply j7 hS c8);(iterate 3 exact rfl);intro g w' hS';clear hS;have hS:=hS';clear hS')|(((with_reducible apply i7 hS c8 (i:=0));(iterate 8 exact rfl);((exact (rfl:_=[_,_,_])));intro w' hS';simp only [List.set] at hS';clear hS;have hS:=hS';clear hS')))|(first|(with_reducible first|apply d8|apply c9|apply d7|apply d5|apply g8|apply e7))|(first|((with_reducible apply l6);exact rfl;(assumption))|((with_reducible apply k6);exact rfl;all_goals (intro hb hp;try (exfalso;omega))))|((with_reducible apply e8);exact rfl;exact rfl;exact b5P _ _;exact rfl;rintro _ w' ⟨rfl,hS'⟩;replace hS:=hS.transA hS';simp only [k7] at hS;clear hS'))
  repeat' (fail)
  replace hS:=hS.rotA 5
  simp only [List.drop_succ_cons,List.drop_zero,List.take_succ_cons,List.take_zero] at hS
  ((with_reducible apply e8);exact rfl;exact rfl;exact b1S hS hM (leB_length _ _) (by omega) (by omega) hpp hnd hfx;exact rfl;rintro _ w' ⟨bs2,hK2,hS'⟩)
  replace hS:=(St.transM (Θ:=.obj r (.map es c)::bxs bs) hS hS').perm List.perm_append_comm
  clear hS'
  simp only [List.cons_append,List.nil_append] at hS
  replace hS:=St.reorderT 5 [1,2,3,4] hS (by decide) rfl
  simp only [k7,List.drop_succ_cons,List.drop_zero] at hS
  repeat' (first|(first|((with_reducible apply m0);exact rfl;exact rfl;omega;omega;exact rfl)|((with_reducible apply d6 c8);exact rfl;exact rfl))|(first|(with_reducible first|apply c9|apply d7|apply d5|apply k8)))
  exact m6 (i + 1,bs2) (by repeat (first|exact Fr.sub_nil _|(apply Fr.sub_cons;exact rfl))) (hnext _ _ hby hK2) (by simpa only [LyS,List.cons_append,List.nil_append,List.append_nil] using hS) (by show _ - (i + 1) < _ - i;omega)
 ·have hd:(!decide (x.name=[]))=true:=by rw [decide_eq_false hn];rfl
  repeat' (first|(first|((with_reducible apply d6 c8);exact rfl;exact rfl)|((with_reducible apply d9);exact rfl;(first|((with_reducible apply Loads.sc c8);exact rfl;(first|exact hS.blkC 0 rfl rfl|exact hS.blkC 1 rfl rfl))|((with_reducible apply Loads.st c8);exact rfl;((exact hS.roR (by assumption) (by assumption)));exact rfl));exact rfl)|((with_reducible apply p8 c8);(iterate 3 exact rfl);((exact rfl));((omega));exact rfl)|((with_reducible apply j7 hS c8);(iterate 3 exact rfl);intro g w' hS';clear hS;have hS:=hS';clear hS')|(((with_reducible apply i7 hS c8 (i:=0));(iterate 8 exact rfl);((exact (rfl:_=[_,_,_])));intro w' hS';simp only [List.set] at hS';clear hS;have hS:=hS';clear hS')))|(first|(with_reducible first|apply d8|apply c9|apply d7|apply d5|apply g8|apply e7))|(first|((with_reducible apply k9);exact rfl;(assumption))|((with_reducible apply k6);exact rfl;all_goals (intro hb hp;try (exfalso;omega)))))
  have hadr:=a9A (gw:=gw) x.name (Bs.of (hS.bs hc)) (hl.now hS) (fun y hy=>(hO y hy).now hS) hr
  cases had:adr (obP os) x.name with
  |none=>
   rw [had] at hadr
   unfold b5p at hadr
   repeat' (first|(((with_reducible apply d6 c8);exact rfl;exact rfl))|(first|(with_reducible first|apply d8|apply c9|apply d7|apply d5|apply j5|apply e6|apply j8))|(((with_reducible apply k9);exact rfl;(exact rfl)))|((with_reducible apply e8);exact rfl;exact rfl;exact hadr;exact rfl;rintro _ w' ⟨rfl,hS'⟩;replace hS:=hS.transA hS';simp only [k7] at hS;clear hS'))
   (apply j6);(repeat (first|exact ResL.nil|(apply ResL.tmp;exact rfl)))
   refine Or.inl ⟨a5T hx ?_,rfl,hS.sub (List.nil_sublist _)⟩
   unfold a2c
   rw [if_neg hn,had]
   rfl
  |some a=>
   have hby:a2c (obP os) (b0 * 16) x=some (leB (IntKind.i64.wrap (a + x.add)) 8):=by unfold a2c;rw [if_neg hn,had];rfl
   rw [had] at hadr
   unfold b5p at hadr
   repeat' (first|(first|((with_reducible apply m0);exact rfl;exact rfl;omega;omega;exact rfl)|((with_reducible apply d6 c8);exact rfl;exact rfl)|((with_reducible apply d9);exact rfl;(((with_reducible apply Loads.sc c8);exact rfl;(first|exact hS.blkC 0 rfl rfl|exact hS.blkC 1 rfl rfl)));exact rfl))|(first|(with_reducible first|apply d8|apply c9|apply d7|apply d5|apply g8))|(((with_reducible apply l6);exact rfl;(exact rfl)))|((with_reducible apply e8);exact rfl;exact rfl;exact hadr;exact rfl;rintro _ w' ⟨rfl,hS'⟩;replace hS:=hS.transA hS';simp only [k7] at hS;clear hS')|((with_reducible apply e8);exact rfl;exact rfl;exact b5P _ _;exact rfl;rintro _ w' ⟨rfl,hS'⟩;replace hS:=hS.transA hS';simp only [k7] at hS;clear hS'))
   repeat' (fail)
   repeat' (fail)
   replace hS:=hS.rotA 5
   simp only [List.drop_succ_cons,List.drop_zero,List.take_succ_cons,List.take_zero] at hS
   ((with_reducible apply e8);exact rfl;exact rfl;exact b1S hS hM (leB_length _ _) (by omega) (by omega) hpp hnd hfx;exact rfl;rintro _ w' ⟨bs2,hK2,hS'⟩)
   replace hS:=(St.transM (Θ:=.obj r (.map es c)::bxs bs) hS hS').perm List.perm_append_comm
   clear hS'
   simp only [List.cons_append,List.nil_append] at hS
   replace hS:=St.reorderT 5 [1,2,3,4] hS (by decide) rfl
   simp only [k7,List.drop_succ_cons,List.drop_zero] at hS
   repeat' (first|(first|((with_reducible apply m0);exact rfl;exact rfl;omega;omega;exact rfl)|((with_reducible apply d6 c8);exact rfl;exact rfl))|(first|(with_reducible first|apply c9|apply d7|apply d5|apply k8)))
   exact m6 (i + 1,bs2) (by repeat (first|exact Fr.sub_nil _|(apply Fr.sub_cons;exact rfl))) (hnext _ _ hby hK2) (by simpa only [LyS,List.cons_append,List.nil_append,List.append_nil] using hS) (by show _ - (i + 1) < _ - i;omega)
end Go.Proofs.Ytejnpppejalhfac
/- slices.Grow and slices.Concat at images. -/
namespace Go.Proofs.Ytejnpppejalhfac
open Go.RowKit Go.Sort
theorem a9a:∃ i,(Try.prog).info? 116=some i∧i.zero=some (.agg #[.string ⟨#[]⟩,.slice none 0 0,.slice none 0 0,.slice none 0 0,.slice none 0 0,.int .i64 0])∧i.size=6∧i.bytes=120:=by
 have h:((Try.prog).info? 116).map (fun i=>(i.zero,i.size,i.bytes))=some (some (.agg #[.string ⟨#[]⟩,.slice none 0 0,.slice none 0 0,.slice none 0 0,.slice none 0 0,.int .i64 0]),6,120):=by kernel_rfl
 cases hq:(Try.prog).info? 116 with
 |none=>simp [hq] at h
 |some i=>
  simp [hq] at h
  exact ⟨i,rfl,h.1,h.2.1,h.2.2⟩
theorem a9J {w w':World} {e sz:Nat} {v:Value} (h:w'.ownsRow w.heap.size e sz v 0 []) (hb:Below w.heap.size w w'):St nF w w' [.row e sz v []]:=by
 refine ⟨hb.os,hb.tape,hb.output,hb.size,fun k hk _=>hb.block k hk,?_,?_,List.Pairwise.cons (by simp) List.Pairwise.nil⟩
 ·intro A hA
  simp only [List.mem_singleton] at hA
  subst hA
  refine ⟨?_,by simp,by simp⟩
  refine ⟨h.1,?_⟩
  rcases h.2 with hn|⟨g,cap,cur,rfl,hg,rest⟩
  ·exact .inl hn
  ·exact .inr ⟨g,cap,cur,rfl,Nat.zero_le _,rest⟩
 ·intro A hA k hk
  simp only [List.mem_singleton] at hA
  subst hA
  exact Or.inl (h.lt k hk).1
def b1d (w:World) (e:Ending) (w':World):Prop:=∃ v,e=.returned v∧w'.ownsRow w.heap.size 116 6 v 0 []∧Below w.heap.size w w'
set_option maxRecDepth 100000 in
set_option maxHeartbeats 4000000 in
theorem b5Y (n:Nat) (hn:n≤3000) (w:World):Calls Try.prog 70 #[.slice none 0 0,.int .i64 n] w (b1d w):=by
 have h1:¬ ((n:Int) < 0):=by omega
 by_cases h0:n=0
 ·subst h0
  go_enter Try.func70,Try.ntmps70
  go_wp2
  go_ret
  exact ⟨_,rfl,World.ownsRow_nil _ _ _ _,Below.refl _ _⟩
 obtain ⟨i0,hi0,hz0,hs0,hy0⟩:=a9a
 have hn1:wrap64 ((n:Int) - 0)=n:=a2I _ (by omega) (by omega)
 have hbys:n * i0.bytes≤140737488355328:=by rw [hy0];omega
 obtain ⟨Z,hZ⟩:∃ Z:Array Value,Z=#[.string ⟨#[]⟩,.slice none 0 0,.slice none 0 0,.slice none 0 0,.slice none 0 0,.int .i64 0]:=⟨_,rfl⟩
 have hrz:∀ ty,(Builtin.append_ #[143,3] ty #[.slice none 0 0,.int .i64 n]).run Try.prog w =
   .ok (.slice (some ⟨w.heap.size,0,none⟩) n (grownCap w n 0 116)) (w.drew.alloc (.cells (#[]++Builtin.zeroCells Z n++Builtin.zeroCells Z (grownCap w n 0 116 - n)) 116)):=fun ty=>by
  have h:=Lib.run_append_grow_zeros (P:=Try.prog) w 143 3 ty 116 i0 _ .i64 .i64 Try.underlying143 Try.underlying3 hi0 hz0 none 0 0 [] (run_firstCells_none w.drew i0.size 0 0 0) n (by omega) (by omega) (by omega) (by omega) (by omega)
   (by rw [Nat.zero_add];exact growslice_fits (by omega) hbys)
  rw [Nat.zero_add] at h
  rw [hZ]
  exact h
 have hge:=grownCap_ge w n 0 116
 have hcm:=grownCap_le_maxLen w n 0 116 (by unfold maxLen;omega)
 have hG63:grownCap w n 0 116≤9223372036854775807:=by unfold maxLen at hcm;exact hcm
 have hzz:∀ k,(Builtin.zeroCells Z k).size=k * 6:=fun k=>by rw [hZ];simp [size_zeroCells]
 generalize grownCap w n 0 116=G at *
 have HZZ:=hid hzz
 have HHI:=hid hbys
 have HCM:=hid hcm
 clear hbys hi0 hz0 hs0 hy0 hzz hcm h1
 obtain ⟨cur,hcur⟩:∃ cur,cur=(#[]++Builtin.zeroCells Z n++Builtin.zeroCells Z (G - n)):=⟨_,rfl⟩
 rw [← hcur] at hrz
 have HCU:Hid (cur.size=G * 6):=hid (by
  rw [hcur,Array.size_append,Array.size_append,HZZ.out,HZZ.out]
  simp
  omega)
 clear hcur hZ
 go_enter Try.func70,Try.ntmps70
 go_wp2_with (at_builtin;refine Lib.wpList_append_run _ rfl _ _ _ _ rfl _ _ rfl rfl _ _ (hrz _) ?_)
 go_ret
 refine ⟨_,rfl,⟨rfl,Or.inr ⟨w.heap.size,G,cur,rfl,Nat.le_refl _,heap_alloc_new w.drew _,Nat.zero_le _,HCM.out,HCU.out,rfl⟩⟩,Below.alloc (Below.drew (Below.refl _ _)) (Nat.le_refl _) _⟩
theorem b3C (n:Nat) (hn:n≤3000) (w:World):Fn Try.prog 70 [.slice none 0 0,.int .i64 n] w (fun v w'=>St nF w w' [.row 116 6 v []]):=by
 refine ⟨⟨Try.f70,Try.func70,by kernel_rfl,by kernel_rfl⟩,?_⟩
 exact (b5Y n hn w).mono fun e w' ⟨v,he,hs,hb⟩=>⟨v,he,a9J hs hb⟩
end Go.Proofs.Ytejnpppejalhfac
/- slices.Concat of images. -/
namespace Go.Proofs.Ytejnpppejalhfac
open Go.RowKit Go.Sort
set_option maxRecDepth 100000 in
set_option maxHeartbeats 8000000 in
theorem b3J {w:World} {c:Nat} {v0 v1:Value} {ra rb:List (List Value)} (hr:RoAt nF w c 0 1 [[v0],[v1]]) (h0:Sl nF w 6 v0 ra) (h1:Sl nF w 6 v1 rb) (hA:ra.length≤1000) (hB:rb.length≤1000) :
  Fn Try.prog 60 [.slice (some ⟨c,0,none⟩) 2 2] w (fun u w'=>St nF w w' [.row 116 6 u (ra++rb)]):=by
 obtain ⟨p0,c0,rfl⟩:=h0.form
 obtain ⟨p1,c1,rfl⟩:=h1.form
 refine j0 (fn:=Try.f60) ⟨Try.func60,by kernel_rfl,by kernel_rfl⟩ (by exact rfl) Try.ntmps60 (by exact rfl) ?_
 have hS:=St.start w
 have hi0:(([[.slice p0 ra.length c0],[.slice p1 rb.length c1]]:List (List Value)))[0]?=some [.slice p0 ra.length c0]:=rfl
 have hi1:(([[.slice p0 ra.length c0],[.slice p1 rb.length c1]]:List (List Value)))[1]?=some [.slice p1 rb.length c1]:=rfl
 repeat' (first|(((with_reducible apply d6 c8);exact rfl;exact rfl))|(first|(with_reducible first|apply d8|apply c9|apply d7|apply d5|apply e7)))
 refine a55 3 ?_
 repeat' (first|(first|((with_reducible apply m0);exact rfl;exact rfl;omega;omega;exact rfl)|((with_reducible apply d6 c8);exact rfl;exact rfl)|((with_reducible apply d9);exact rfl;(((with_reducible apply Loads.sl c8);exact rfl;((exact hS.roC0 (by assumption) (by assumption) rfl))));exact rfl)|((with_reducible apply p8 c8);(iterate 3 exact rfl);((exact rfl));((simp only [List.length_map,List.length_cons,List.length_nil,List.length_append];omega));exact rfl))|(first|(with_reducible first|apply d8|apply c9|apply d7|apply d5|apply g8|apply e7|apply n5|apply j4|apply k8|apply i9))|(first|((with_reducible apply k9);exact rfl;(exact rfl))|((with_reducible apply l6);exact rfl;(exact rfl)))|with_reducible apply a1U|(with_reducible apply a2d))
 have hg:=fun w=>b3C (ra.length + rb.length) (by omega) w
 rw [show ((ra.length + rb.length:Nat):Int)=0 + (ra.length:Int) + (rb.length:Int) by omega] at hg
 ((with_reducible apply e8);exact rfl;exact rfl;exact hg _;exact rfl;rintro v w' hS';replace hS:=hS.transA hS';simp only [k7] at hS;clear hS')
 repeat' (first|(((with_reducible apply d6 c8);exact rfl;exact rfl))|(first|(with_reducible first|apply d8|apply c9|apply d7|apply d5|apply e7)))
 refine a55 3 ?_
 repeat' (first|(first|((with_reducible apply m0);exact rfl;exact rfl;omega;omega;exact rfl)|((with_reducible apply d6 c8);exact rfl;exact rfl)|((with_reducible apply d9);exact rfl;(((with_reducible apply Loads.sl c8);exact rfl;((exact hS.roC0 (by assumption) (by assumption) rfl))));exact rfl)|((with_reducible apply p8 c8);(iterate 3 exact rfl);((exact rfl));((simp only [List.length_map,List.length_cons,List.length_nil,List.length_append];omega));exact rfl))|(first|(with_reducible first|apply d8|apply c9|apply d7|apply d5|apply g8|apply e7|apply n5|apply j5|apply j4|apply k8|apply i9))|(first|((with_reducible apply k9);exact rfl;(exact rfl))|((with_reducible apply l6);exact rfl;(exact rfl)))|with_reducible apply a1U|(with_reducible apply a2d)|((with_reducible apply a0P hS c8 0);(iterate 4 exact rfl);exact h0.now hS;(simp only [List.length_nil,List.length_append];omega);exact rfl;intro p' cap' w' hS';simp only [List.set] at hS';clear hS;have hS:=hS';clear hS')|((with_reducible apply a0P hS c8 0);(iterate 4 exact rfl);exact h1.now hS;(simp only [List.length_nil,List.length_append];omega);exact rfl;intro p' cap' w' hS';simp only [List.set] at hS';clear hS;have hS:=hS';clear hS'))
 (apply j6);(repeat (first|exact ResL.nil|(apply ResL.tmp;exact rfl)))
 exact hS
end Go.Proofs.Ytejnpppejalhfac
/- An image's names, counts, segments. -/
namespace Go.Proofs.Ytejnpppejalhfac
open Go.RowKit Go.Sort
end Go.Proofs.Ytejnpppejalhfac
/- image.names. -/
namespace Go.Proofs.Ytejnpppejalhfac
open Go.RowKit Go.Sort
structure ImB (I:Im):Prop where
 needs:I.needs.length≤1048576
 segs:I.segs.length≤1048576
 syms:I.syms.length≤1048576
 rels:I.rels.length≤1048576
def nl0 (I:Im):List (List UInt8):=I.name::I.needs
def nl1 (I:Im) (i:Nat):List (List UInt8):=nl0 I++(I.syms.take i).map (·.name)
def nl2 (I:Im) (i:Nat):List (List UInt8):=nl1 I I.syms.length++((I.rels.take i).filter (fun r=>!decide (r.name=[]))).map (·.name)
theorem a2v {α:Type} {l:List α} {i:Nat} {x:α} (hx:l[i]?=some x):l.take (i + 1)=l.take i++[x]:=by
 rw [List.take_add_one,hx];rfl
theorem b3c {I:Im} {i:Nat} {x:Sy} (hx:I.syms[i]?=some x):(nl1 I i).map stC++[stC x.name]=(nl1 I (i + 1)).map stC:=by
 unfold nl1;rw [a2v hx];simp
theorem b2l {I:Im} {i:Nat} {x:Rl} (hx:I.rels[i]?=some x) (hn:¬ x.name=[]):(nl2 I i).map stC++[stC x.name]=(nl2 I (i + 1)).map stC:=by
 unfold nl2;rw [a2v hx];simp [hn]
theorem b3e {I:Im} {i:Nat} {x:Rl} (hx:I.rels[i]?=some x) (hn:x.name=[]):nl2 I i=nl2 I (i + 1):=by
 unfold nl2;rw [a2v hx];simp [hn]
theorem b3z {I:Im} (h:ImB I) (i:Nat):((nl1 I i).map stC).length≤2097153:=by
 have h1:=h.needs
 have h2:=h.syms
 simp only [nl1,nl0,List.length_map,List.length_append,List.length_cons,List.length_take];omega
theorem b0d {I:Im} (h:ImB I) (i:Nat):((nl2 I i).map stC).length≤4194304:=by
 have h1:=h.needs
 have h2:=h.syms
 have h3:=h.rels
 have h4:=List.length_filter_le (fun r:Rl=>!decide (r.name=[])) (I.rels.take i)
 rw [List.length_take] at h4
 simp only [nl2,nl1,nl0,List.length_map,List.length_append,List.length_cons,List.length_take];omega
theorem a98 (I:Im):(nl2 I I.rels.length).all nmB=a8h I:=by
 unfold nl2 nl1 nl0 a8h
 rw [List.take_length,List.take_length]
 rw [Bool.eq_iff_iff]
 simp only [List.all_eq_true,List.cons_append,List.mem_cons,List.mem_append,List.mem_map,List.mem_filter,Bool.and_eq_true,Bool.or_eq_true,decide_eq_true_eq,Bool.not_eq_true',decide_eq_false_iff_not]
 constructor
 ·intro h
  refine ⟨h _ (Or.inl rfl),fun s hs=>h _ (Or.inr (Or.inl (Or.inl hs))),fun s hs=>h _ (Or.inr (Or.inl (Or.inr ⟨s,hs,rfl⟩))),fun r hr=>?_⟩
  by_cases e:r.name=[]
  ·exact Or.inl e
  ·exact Or.inr (h _ (Or.inr (Or.inr ⟨r,⟨hr,e⟩,rfl⟩)))
 ·rintro ⟨h1,h2,h3,h4⟩ x (rfl|(hx|⟨s,hs,rfl⟩)|⟨r,⟨hr,e⟩,rfl⟩)
  ·exact h1
  ·exact h2 x hx
  ·exact h3 s hs
  ·exact (h4 r hr).resolve_left e
set_option maxRecDepth 100000 in
set_option maxHeartbeats 2000000 in
theorem a2u {I:Im} {w:World} {vn vs vy vr:Value} (hI:ImV w I vn vs vy vr) (hB:ImB I):Fn Try.prog 71 [imA I vn vs vy vr] w (RBf (.int .i64 (if a8h I=true then 0 else 4)) w):=by
 have bn:=hI.needs.bound;have bs:=hI.segs.bound;have by_:=hI.syms.bound;have br:=hI.rels.bound;obtain ⟨pn,cn,rfl⟩:=hI.needs.len;obtain ⟨ps,cs,rfl⟩:=hI.segs.len;obtain ⟨py,cy,rfl⟩:=hI.syms.len;obtain ⟨pr,cr,rfl⟩:=hI.rels.len
 refine j0 (fn:=Try.f71) ⟨Try.func71,by kernel_rfl,by kernel_rfl⟩ (by exact rfl) Try.ntmps71 (by exact rfl) ?_
 have hS:=St.start w
 have hb1:=hB.needs
 have hb2:=hB.syms
 have hb3:=hB.rels
 repeat' (first|(first|((with_reducible apply d6 c8);exact rfl;exact rfl)|((with_reducible apply d9);exact rfl;(first|((with_reducible apply Loads.sc c8);exact rfl;((exact hS.blkC 0 rfl rfl)))|((with_reducible apply Loads.sl c8);exact rfl;((exact hS.blkC 1 rfl rfl))));exact rfl)|((with_reducible apply p7 hS);(iterate 3 exact rfl);intro g w' hS';clear hS;have hS:=hS';clear hS')|((with_reducible apply a0v hS c8);(iterate 7 exact rfl);intro g w' hS';clear hS;have hS:=hS';clear hS'))|(first|(with_reducible first|apply d8|apply c9|apply d7|apply d5|apply e7))|((with_reducible apply a0P hS c8 0);(iterate 4 exact rfl);exact hI.needs.now hS;((simp only [List.length_map,List.length_cons,List.length_nil,List.length_append];omega));exact rfl;intro p' cap' w' hS';simp only [List.set] at hS';clear hS;have hS:=hS';clear hS'))
 have e1:[[.string ⟨I.name.toArray⟩]]++I.needs.map stC=(nl1 I 0).map stC:=by simp [nl1,nl0,stC]
 rw [e1] at hS
 refine o6 (X:=Nat×Option Addr×Nat×Nat) (fun x=>[(19,.int .i64 (x.1:Nat)),(3,.slice x.2.1 x.2.2.1 x.2.2.2)]) [1,17,18] rfl (fun x=>[.row 9 1 (.slice x.2.1 x.2.2.1 x.2.2.2) ((nl1 I x.1).map stC)]) (fun x=>x.1≤I.syms.length) (fun x=>I.syms.length - x.1) (0,p',_,cap') (by repeat (first|exact Fr.sub_nil _|(apply Fr.sub_cons;exact rfl))) (by exact Nat.zero_le _) hS ?_
 rintro ⟨i,q1,q2,q3⟩ w1 hi hS'
 simp only [List.cons_append,List.nil_append] at hi hS' ⊢
 clear hS;have hS:=hS';clear hS'
 by_cases hlt:i < I.syms.length
 ·obtain ⟨x,hx⟩:=l8 (l:=I.syms) (i:=i) (by omega)
  have hrow:=j9 (f:=syC) hx
  obtain ⟨b,off,rfl,hro⟩:=(hI.syms).at_ hlt
  have hl1:=b3z hB i
  repeat' (first|(first|((with_reducible apply m0);exact rfl;exact rfl;omega;omega;exact rfl)|((with_reducible apply d6 c8);exact rfl;exact rfl)|((with_reducible apply d9);exact rfl;(first|((with_reducible apply Loads.sc c8);exact rfl;((exact hS.blkC 0 rfl rfl)))|((with_reducible apply Loads.st c8);exact rfl;((exact hS.roR (by assumption) (by assumption)));exact rfl));exact rfl)|((with_reducible apply p8 c8);(iterate 3 exact rfl);((exact rfl));((omega));exact rfl)|((with_reducible apply j7 hS c8);(iterate 3 exact rfl);intro g w' hS';clear hS;have hS:=hS';clear hS')|(((with_reducible apply i7 hS c8 (i:=0));(iterate 8 exact rfl);((exact (rfl:_=[_,_])));intro w' hS';simp only [List.set] at hS';clear hS;have hS:=hS';clear hS'))|((with_reducible apply a0v hS c8);(iterate 7 exact rfl);intro g w' hS';clear hS;have hS:=hS';clear hS'))|(first|(with_reducible first|apply d8|apply c9|apply d7|apply d5|apply g8|apply e7|apply k8))|(((with_reducible apply k6);exact rfl;all_goals (intro hb hp;try (exfalso;omega))))|((with_reducible apply a26 hS c8 2);(iterate 4 exact rfl);exact hS.rowRo 0 rfl;exact rfl;((omega));exact rfl;intro p' cap' w' hS';simp only [List.set] at hS';clear hS;have hS:=hS';clear hS'))
  rw [show [[.string ⟨x.name.toArray⟩]]=[stC x.name] from rfl,b3c hx] at hS
  refine m6 (i + 1,p',_,cap') (by repeat (first|exact Fr.sub_nil _|(apply Fr.sub_cons;exact rfl))) (by show i + 1≤I.syms.length;omega) ?_ (by show I.syms.length - (i + 1) < I.syms.length - i;omega)
  exact (hS.drop.drop)
 have e2:=List.take_of_length_le (l:=I.syms) (i:=i) (by omega)
 have e3:nl1 I i=nl1 I I.syms.length:=by unfold nl1;rw [e2,List.take_length]
 have e4:(nl1 I i).map stC=(nl2 I 0).map stC:=by unfold nl2;rw [e3];simp
 repeat' (first|(first|((with_reducible apply d6 c8);exact rfl;exact rfl)|((with_reducible apply d9);exact rfl;(((with_reducible apply Loads.sl c8);exact rfl;((exact hS.blkC 1 rfl rfl))));exact rfl))|(first|(with_reducible first|apply d8|apply c9|apply d7|apply d5|apply e7|apply n5|apply j4|apply i9))|(((with_reducible apply k6);exact rfl;all_goals (intro hb hp;try (exfalso;omega)))))
 rw [e4] at hS
 refine o6 (X:=Nat×Option Addr×Nat×Nat) (fun x=>[(32,.int .i64 (x.1:Nat)),(3,.slice x.2.1 x.2.2.1 x.2.2.2)]) [1,30,31] rfl (fun x=>[.row 9 1 (.slice x.2.1 x.2.2.1 x.2.2.2) ((nl2 I x.1).map stC)]) (fun x=>x.1≤I.rels.length) (fun x=>I.rels.length - x.1) (0,q1,_,q3) (by repeat (first|exact Fr.sub_nil _|(apply Fr.sub_cons;exact rfl))) (by exact Nat.zero_le _) hS ?_
 clear hi hlt hb hp e2 e3 e4 hS
 rintro ⟨j,q4,q5,q6⟩ w1 hi hS
 simp only [List.cons_append,List.nil_append] at hi hS ⊢
 by_cases hlt:j < I.rels.length
 ·obtain ⟨x,hx⟩:=l8 (l:=I.rels) (i:=j) (by omega)
  have hrow:=j9 (f:=rlC) hx
  obtain ⟨b,off,rfl,hro⟩:=hI.rels.at_ hlt
  have hl1:=b0d hB j
  repeat' (first|(first|((with_reducible apply m0);exact rfl;exact rfl;omega;omega;exact rfl)|((with_reducible apply d6 c8);exact rfl;exact rfl)|((with_reducible apply d9);exact rfl;(first|((with_reducible apply Loads.sc c8);exact rfl;((exact hS.blkC 0 rfl rfl)))|((with_reducible apply Loads.st c8);exact rfl;((exact hS.roR (by assumption) (by assumption)));exact rfl));exact rfl)|((with_reducible apply p8 c8);(iterate 3 exact rfl);((exact rfl));((omega));exact rfl)|((with_reducible apply j7 hS c8);(iterate 3 exact rfl);intro g w' hS';clear hS;have hS:=hS';clear hS')|(((with_reducible apply i7 hS c8 (i:=0));(iterate 8 exact rfl);((exact (rfl:_=[_,_,_])));intro w' hS';simp only [List.set] at hS';clear hS;have hS:=hS';clear hS'))|((with_reducible apply a0v hS c8);(iterate 7 exact rfl);intro g w' hS';clear hS;have hS:=hS';clear hS'))|(first|(with_reducible first|apply d8|apply c9|apply d7|apply d5|apply g8|apply e7|apply k8))|(first|((with_reducible apply k6);exact rfl;all_goals (intro hb hp;try (exfalso;omega)))|((with_reducible apply a1e);exact rfl;all_goals (intro hb hp;try (exfalso;omega))))|((with_reducible apply a26 hS c8 2);(iterate 4 exact rfl);exact hS.rowRo 0 rfl;exact rfl;((omega));exact rfl;intro p' cap' w' hS';simp only [List.set] at hS';clear hS;have hS:=hS';clear hS'))
  ·rw [show [[.string ⟨x.name.toArray⟩]]=[stC x.name] from rfl,b2l hx (by simpa using hp)] at hS
   refine m6 (j + 1,p',_,cap') (by repeat (first|exact Fr.sub_nil _|(apply Fr.sub_cons;exact rfl))) (by show j + 1≤I.rels.length;omega) ?_ (by show I.rels.length - (j + 1) < I.rels.length - j;omega)
   exact (hS.drop.drop)
  ·rw [b3e hx (by simpa using hp)] at hS
   refine m6 (j + 1,q4,_,q6) (by repeat (first|exact Fr.sub_nil _|(apply Fr.sub_cons;exact rfl))) (by show j + 1≤I.rels.length;omega) ?_ (by show I.rels.length - (j + 1) < I.rels.length - j;omega)
   exact hS.drop
 have e5:nl2 I j=nl2 I I.rels.length:=by unfold nl2;rw [List.take_of_length_le (l:=I.rels) (i:=j) (by omega),List.take_length]
 rw [e5] at hS
 have hl2:=b0d hB I.rels.length
 rw [List.length_map] at hl2
 have hm:=hS.rowLen 0 rfl
 rw [List.length_map] at hm
 subst hm
 repeat' (first|(((with_reducible apply d6 c8);exact rfl;exact rfl))|(first|(with_reducible first|apply d8|apply c9|apply d7|apply d5|apply e7|apply n5|apply j4|apply i9))|(((with_reducible apply k6);exact rfl;all_goals (intro hb hp;try (exfalso;omega)))))
 refine a1f hS 47 [1,45,46] rfl ((nl2 I I.rels.length).length) (fun i=>((nl2 I I.rels.length).take i).all nmB=true) 0 rfl (Nat.zero_le _) (by (rfl)) ?_
 rintro i w1 hi hall hS'
 clear hS;have hS:=hS';clear hS'
 by_cases hlt:i < (nl2 I I.rels.length).length
 ·obtain ⟨x,hx⟩:=l8 (l:=nl2 I I.rels.length) (i:=i) (by omega)
  have hrow:=j9 (f:=stC) hx
  obtain ⟨g2,rfl⟩:=hS.rowSome 0 rfl (by omega)
  repeat' (first|(first|((with_reducible apply m0);exact rfl;exact rfl;omega;omega;exact rfl)|((with_reducible apply d6 c8);exact rfl;exact rfl)|((with_reducible apply d9);exact rfl;(((with_reducible apply Loads.sc c8);exact rfl;((exact hS.rowC0 0 rfl (by assumption) rfl))));exact rfl)|((with_reducible apply p8 c8);(iterate 3 exact rfl);((exact rfl));((omega));exact rfl))|(first|(with_reducible first|apply d8|apply c9|apply d7|apply d5|apply g8|apply e7|apply j5|apply e6|apply k8|apply j8))|(first|((with_reducible apply k6);exact rfl;all_goals (intro hb hp;try (exfalso;omega)))|((with_reducible apply a8i);exact rfl;all_goals (intro hb hp;try (exfalso;omega))))|((with_reducible apply e8);exact rfl;exact rfl;exact b3t _ _;exact rfl;rintro _ w' ⟨rfl,hS'⟩;replace hS:=hS.transA hS';simp only [k7] at hS;clear hS'))
  ·(apply j6);(repeat (first|exact ResL.nil|(apply ResL.tmp;exact rfl)))
   refine ⟨?_,hS.sub (List.nil_sublist _)⟩
   rw [if_neg (by rw [← a98,a5T hx (by simpa using hb)];simp)]
  ·exact a02 (i + 1) (by repeat (first|exact Fr.sub_nil _|(apply Fr.sub_cons;exact rfl))) (by omega) (t0 hall hx (by simpa using hb)) (by omega) hS
 ·repeat' (first|(((with_reducible apply d6 c8);exact rfl;exact rfl))|(first|(with_reducible first|apply d8|apply c9|apply d7|apply d5|apply n5|apply j5|apply j4|apply i9))|(((with_reducible apply k6);exact rfl;all_goals (intro hb hp;try (exfalso;omega)))))
  (apply j6);(repeat (first|exact ResL.nil|(apply ResL.tmp;exact rfl)))
  refine ⟨?_,hS.sub (List.nil_sublist _)⟩
  rw [if_pos (by rw [← a98];exact a1J hall (by omega))]
end Go.Proofs.Ytejnpppejalhfac
/- An image's counts, segments; the segment of an address. -/
namespace Go.Proofs.Ytejnpppejalhfac
open Go.RowKit Go.Sort
set_option maxRecDepth 100000 in
set_option maxHeartbeats 2000000 in
theorem a2r {I:Im} {w:World} {vn vs vy vr:Value} (hI:ImV w I vn vs vy vr):Fn Try.prog 72 [imA I vn vs vy vr] w (RBf (.int .i64 (if a8B I=true then 0 else 2)) w):=by
 have bn:=hI.needs.bound;have bs:=hI.segs.bound;have by_:=hI.syms.bound;have br:=hI.rels.bound;obtain ⟨pn,cn,rfl⟩:=hI.needs.len;obtain ⟨ps,cs,rfl⟩:=hI.segs.len;obtain ⟨py,cy,rfl⟩:=hI.syms.len;obtain ⟨pr,cr,rfl⟩:=hI.rels.len
 refine j0 (fn:=Try.f72) ⟨Try.func72,by kernel_rfl,by kernel_rfl⟩ (by exact rfl) Try.ntmps72 (by exact rfl) ?_
 have hS:=St.start w
 repeat' (first|(first|((with_reducible apply d6 c8);exact rfl;exact rfl)|((with_reducible apply d9);exact rfl;(((with_reducible apply Loads.sl c8);exact rfl;((exact hS.blkC 0 rfl rfl))));exact rfl)|((with_reducible apply p7 hS);(iterate 3 exact rfl);intro g w' hS';clear hS;have hS:=hS';clear hS')|(first|((with_reducible apply p9);(iterate 4 exact rfl);(assumption))|((with_reducible apply a0f);(iterate 4 exact rfl);(first|exact rfl|assumption);exact rfl)|((with_reducible apply r6);(iterate 3 exact rfl);all_goals (intro hb hp;try (exfalso;omega)))|((with_reducible apply m9);exact rfl;(first|exact rfl|assumption);exact rfl;exact rfl)|((with_reducible apply n0);exact rfl;((assumption));exact rfl;exact rfl)))|(first|(with_reducible first|apply d8|apply c9|apply d7|apply d5|apply g8|apply j5|apply e6))|(first|((with_reducible apply k9);exact rfl;(exact rfl))|((with_reducible apply k6);exact rfl;all_goals (intro hb hp;try (exfalso;omega)))))
 all_goals (apply j6);(repeat (first|exact ResL.nil|(apply ResL.tmp;exact rfl)))
 all_goals refine ⟨?_,hS.sub (List.nil_sublist _)⟩
 all_goals first
  |(rw [if_neg (by unfold a8B;rw [decide_eq_true_eq];omega)];done)
  |(rw [if_pos (by unfold a8B;rw [decide_eq_true_eq];omega)];done)
set_option maxRecDepth 100000 in
set_option maxHeartbeats 2000000 in
theorem a17 {I:Im} {w:World} {vn vs vy vr:Value} (hI:ImV w I vn vs vy vr) (hd:∀ s ∈ I.segs,(s.data.length:Int)≤9223372036854775807):Fn Try.prog 73 [imA I vn vs vy vr] w (RBf (.int .i64 (if a4F I=true then 0 else 3)) w):=by
 have bn:=hI.needs.bound;have bs:=hI.segs.bound;have by_:=hI.syms.bound;have br:=hI.rels.bound;obtain ⟨pn,cn,rfl⟩:=hI.needs.len;obtain ⟨ps,cs,rfl⟩:=hI.segs.len;obtain ⟨py,cy,rfl⟩:=hI.syms.len;obtain ⟨pr,cr,rfl⟩:=hI.rels.len
 refine j0 (fn:=Try.f73) ⟨Try.func73,by kernel_rfl,by kernel_rfl⟩ (by exact rfl) Try.ntmps73 (by exact rfl) ?_
 have hS:=St.start w
 repeat' (first|(first|((with_reducible apply d6 c8);exact rfl;exact rfl)|((with_reducible apply d9);exact rfl;(((with_reducible apply Loads.sl c8);exact rfl;((exact hS.blkC 0 rfl rfl))));exact rfl)|((with_reducible apply p7 hS);(iterate 3 exact rfl);intro g w' hS';clear hS;have hS:=hS';clear hS'))|(first|(with_reducible first|apply d8|apply c9|apply d7|apply d5|apply e7)))
 refine a1f hS 8 [1,6,7] rfl (I.segs.length) (fun i=>(I.segs.take i).all a2m=true) 0 rfl (Nat.zero_le _) (by (rfl)) ?_
 rintro i w1 hi hall hS'
 clear hS;have hS:=hS';clear hS'
 by_cases hlt:i < I.segs.length
 ·obtain ⟨x,hx⟩:=l8 (l:=I.segs) (i:=i) (by omega)
  have hrow:=j9 (f:=sgC) hx
  obtain ⟨b,off,rfl,hro⟩:=(hI.segs).at_ hlt
  have hdx:=hd x (List.mem_of_getElem? hx)
  repeat' (first|(first|((with_reducible apply m0);exact rfl;exact rfl;omega;omega;exact rfl)|((with_reducible apply a1X);exact rfl;exact rfl;omega;omega;exact rfl)|((with_reducible apply b0f);exact rfl;exact rfl;omega;omega;exact rfl)|((with_reducible apply d6 c8);exact rfl;exact rfl)|((with_reducible apply d9);exact rfl;(first|((with_reducible apply Loads.sc c8);exact rfl;((exact hS.blkC 0 rfl rfl)))|((with_reducible apply Loads.st c8);exact rfl;((exact hS.roR (by assumption) (by assumption)));exact rfl));exact rfl)|((with_reducible apply p8 c8);(iterate 3 exact rfl);((exact rfl));((omega));exact rfl)|((with_reducible apply j7 hS c8);(iterate 3 exact rfl);intro g w' hS';clear hS;have hS:=hS';clear hS')|(((with_reducible apply i7 hS c8 (i:=0));(iterate 8 exact rfl);((exact (rfl:_=[_,_,_,_,_])));intro w' hS';simp only [List.set] at hS';clear hS;have hS:=hS';clear hS'))|(first|((with_reducible apply p9);(iterate 4 exact rfl);(assumption))|((with_reducible apply a0f);(iterate 4 exact rfl);(first|exact rfl|assumption);exact rfl)|((with_reducible apply r6);(iterate 3 exact rfl);all_goals (intro hb hp;try (exfalso;omega)))|((with_reducible apply m9);exact rfl;(first|exact rfl|assumption);exact rfl;exact rfl)|((with_reducible apply n0);exact rfl;((assumption));exact rfl;exact rfl)))|(first|(with_reducible first|apply d8|apply c9|apply d7|apply d5|apply g8|apply e7|apply j5|apply e6|apply k8|apply j8))|(first|((with_reducible apply k9);exact rfl;(exact rfl))|((with_reducible apply k6);exact rfl;all_goals (intro hb hp;try (exfalso;omega)))))
  all_goals first
   |exact a02 (i + 1) (by repeat (first|exact Fr.sub_nil _|(apply Fr.sub_cons;exact rfl))) (by omega) (t0 hall hx (by unfold a2m;rw [decide_eq_true_eq];omega)) (by omega) hS.drop
   |(((apply j6);(repeat (first|exact ResL.nil|(apply ResL.tmp;exact rfl))));refine ⟨?_,hS.sub (List.nil_sublist _)⟩;rw [if_neg (by rw [a4F,a5T hx (by unfold a2m;rw [decide_eq_false_iff_not];omega)];simp)])
 ·repeat' (first|(((with_reducible apply d6 c8);exact rfl;exact rfl))|(first|(with_reducible first|apply d8|apply c9|apply d7|apply d5|apply n5|apply j5|apply j4|apply i9))|(((with_reducible apply k6);exact rfl;all_goals (intro hb hp;try (exfalso;omega)))))
  (apply j6);(repeat (first|exact ResL.nil|(apply ResL.tmp;exact rfl)))
  refine ⟨?_,hS.sub (List.nil_sublist _)⟩
  rw [if_pos (show a4F I=true from a1J hall (by omega))]
theorem b6k {b:Bool} (h:b=false):(!b)=true:=by rw [h];rfl
set_option maxRecDepth 100000 in
set_option maxHeartbeats 2000000 in
theorem a97 {I:Im} {w:World} {vn vs vy vr:Value} (x0:Int) (hI:ImV w I vn vs vy vr) (hok:a4F I=true):Fn Try.prog 86 [imA I vn vs vy vr,.int .i64 x0] w (RBf (.tuple #[.agg (sgC ((own I.segs x0).getD b3r)).toArray,.bool (own I.segs x0).isSome]) w):=by
 have bn:=hI.needs.bound;have bs:=hI.segs.bound;have by_:=hI.syms.bound;have br:=hI.rels.bound;obtain ⟨pn,cn,rfl⟩:=hI.needs.len;obtain ⟨ps,cs,rfl⟩:=hI.segs.len;obtain ⟨py,cy,rfl⟩:=hI.syms.len;obtain ⟨pr,cr,rfl⟩:=hI.rels.len
 refine j0 (fn:=Try.f86) ⟨Try.func86,by kernel_rfl,by kernel_rfl⟩ (by exact rfl) Try.ntmps86 (by exact rfl) ?_
 have hS:=St.start w
 repeat' (first|(first|((with_reducible apply d6 c8);exact rfl;exact rfl)|((with_reducible apply d9);exact rfl;(((with_reducible apply Loads.sl c8);exact rfl;((exact hS.blkC 1 rfl rfl))));exact rfl)|((with_reducible apply p7 hS);(iterate 3 exact rfl);intro g w' hS';clear hS;have hS:=hS';clear hS')|((with_reducible apply j7 hS c8);(iterate 3 exact rfl);intro g w' hS';clear hS;have hS:=hS';clear hS'))|(first|(with_reducible first|apply d8|apply c9|apply d7|apply d5|apply e7)))
 refine a1f hS 11 [1,2,4,9,10] rfl (I.segs.length) (fun i=>(I.segs.take i).all (fun s=>!a6a x0 s)=true) 0 rfl (Nat.zero_le _) (by (rfl)) ?_
 rintro i w1 hi hall hS'
 clear hS;have hS:=hS';clear hS'
 by_cases hlt:i < I.segs.length
 ·obtain ⟨x,hx⟩:=l8 (l:=I.segs) (i:=i) (by omega)
  have hrow:=j9 (f:=sgC) hx
  obtain ⟨b,off,rfl,hro⟩:=(hI.segs).at_ hlt
  obtain ⟨o1,o2,o3,o4,-⟩:=a6C hok hx
  repeat' (first|(first|((with_reducible apply m0);exact rfl;exact rfl;omega;omega;exact rfl)|((with_reducible apply b0f);exact rfl;exact rfl;omega;omega;exact rfl)|((with_reducible apply d6 c8);exact rfl;exact rfl)|((with_reducible apply d9);exact rfl;(first|((with_reducible apply Loads.sc c8);exact rfl;((exact hS.blkC 0 rfl rfl)))|((with_reducible apply Loads.st c8);exact rfl;(first|exact hS.blkR 0 rfl|exact hS.roR (by assumption) (by assumption));exact rfl));exact rfl)|((with_reducible apply p8 c8);(iterate 3 exact rfl);((exact rfl));((omega));exact rfl)|((with_reducible apply j7 hS c8);(iterate 3 exact rfl);intro g w' hS';clear hS;have hS:=hS';clear hS')|(first|((with_reducible apply i7 hS c8 (i:=0));(iterate 8 exact rfl);((exact (rfl:_=[_,_,_,_,_])));intro w' hS';simp only [List.set] at hS';clear hS;have hS:=hS';clear hS')|((with_reducible apply i7 hS c8 (i:=1));(iterate 8 exact rfl);((exact (rfl:_=[_,_,_,_,_])));intro w' hS';simp only [List.set] at hS';clear hS;have hS:=hS';clear hS'))|(first|((with_reducible apply p9);(iterate 4 exact rfl);(assumption))|((with_reducible apply a0f);(iterate 4 exact rfl);((assumption));exact rfl)|((with_reducible apply r6);(iterate 3 exact rfl);all_goals (intro hb hp;try (exfalso;omega)))|((with_reducible apply m9);exact rfl;((assumption));exact rfl;exact rfl)|((with_reducible apply n0);exact rfl;((assumption));exact rfl;exact rfl)))|(first|(with_reducible first|apply d8|apply c9|apply d7|apply d5|apply g8|apply e7|apply j5|apply e6|apply k8|apply j8))|(first|((with_reducible apply l6);exact rfl;(exact rfl))|((with_reducible apply k6);exact rfl;all_goals (intro hb hp;try (exfalso;omega)))))
  all_goals first
   |exact a02 (i + 1) (by repeat (first|exact Fr.sub_nil _|(apply Fr.sub_cons;exact rfl))) (by omega) (t0 hall hx (b6k (by unfold a6a;rw [decide_eq_false_iff_not];omega))) (by omega) hS.drop
   |skip
  (apply s9);(repeat (first|exact ResL.nil|(apply ResL.tmp;exact rfl)|(apply ResL.cell;exact rfl;(((with_reducible apply Loads.st c8);exact rfl;((exact hS.blkR 1 rfl));exact rfl)))))
  refine ⟨?_,hS.sub (List.nil_sublist _)⟩
  rw [b3O hall hx (by unfold a6a;rw [decide_eq_true_eq];omega)]
  rfl
 ·repeat' (first|(first|((with_reducible apply d6 c8);exact rfl;exact rfl)|((with_reducible apply n7 c8);exact rfl;exact rfl;((exact (rfl:_=some [_,_,_,_,_])));exact rfl)|(((with_reducible apply i7 hS c8 (i:=0));(iterate 8 exact rfl);((exact (rfl:_=[_,_,_,_,_])));intro w' hS';simp only [List.set] at hS';clear hS;have hS:=hS';clear hS')))|(first|(with_reducible first|apply d8|apply c9|apply d7|apply d5|apply n5|apply j5|apply j4|apply i9))|(((with_reducible apply k6);exact rfl;all_goals (intro hb hp;try (exfalso;omega)))))
  (apply s9);(repeat (first|exact ResL.nil|(apply ResL.tmp;exact rfl)|(apply ResL.cell;exact rfl;(((with_reducible apply Loads.st c8);exact rfl;((exact hS.blkR 0 rfl));exact rfl)))))
  refine ⟨?_,hS.sub (List.nil_sublist _)⟩
  rw [b1B hall (by omega)]
  rfl
end Go.Proofs.Ytejnpppejalhfac
/- THE STEP CALCULUS, part 13: maps of numbers by strings, of the call's own. -/
namespace Go.Proofs.Ytejnpppejalhfac
open Go.RowKit Go.Sort Go.MapKept
structure MapN (es:Array MapEntry) (L:List (List UInt8×Int)):Prop where
 held:es.toList.map (fun e=>(e.key,e.val))=L.map fun p=>(Value.string ⟨p.1.toArray⟩,Value.int .i64 p.2)
 once:(L.map (·.1)).Nodup
theorem MapN.nil:MapN #[] []:=⟨rfl,by simp⟩
theorem a5b {a b:List UInt8} (h:Value.string ⟨a.toArray⟩=Value.string ⟨b.toArray⟩):a=b:=by
 simpa using h
theorem MapN.at_ {w:World} {r c:Nat} {es:Array MapEntry} {L:List (List UInt8×Int)} (h:MapN es L) (hr:w.heap[r]?=some (.map es c)):MapAt .string w r (L.map fun p=>(Value.string ⟨p.1.toArray⟩,Value.int .i64 p.2)):=by
 refine ⟨⟨es,c,hr,h.held⟩,fun p hp=>?_,?_⟩
 ·obtain ⟨q,_,rfl⟩:=List.mem_map.1 hp
  trivial
 ·rw [List.map_map]
  have:(Prod.fst ∘ fun p:List UInt8×Int=>(Value.string ⟨p.1.toArray⟩,Value.int .i64 p.2))=(fun x:List UInt8=>Value.string ⟨x.toArray⟩) ∘ (·.1):=rfl
  rw [this,← List.map_map]
  exact List.Pairwise.map _ (fun a b hab e=>hab (a5b e)) h.once
section
variable {P:Program} {n:Nat} {ds:List Deferred} {E:Fr} {w:World} {Q:Exit→Act→World→Prop} {ops:Array Oper} {rest:List Oper} {d:Nat} {ty:TypeId} {pos:String} {after:Array Edge} {F:Nat→Prop} {w0:World} {Γ:List Asr} {T:Tab}
theorem b0M (hS:St F w0 w Γ) {t:TypeId} (hd:Nat.blt d n=true) (k:∀ r w',St F w0 w' (.obj r (.map #[] 0)::Γ)→WL P ops Q rest n ds ((d,.map (some r))::E) w'):WL P ops Q (⟨some d,.makeMap t none,ty,pos,after,none⟩::rest) n ds E w :=
 y7 (Φ:=fun v w'=>∃ r,v=.map (some r)∧St F w0 w' (.obj r (.map #[] 0)::Γ)) hd (fun a ha K Q k=>by
  have hex:(execOp a.eval ⟨some d,.makeMap t none,ty,pos,after,none⟩).run P w=.ok (.value (.map (some w.heap.size))) (w.alloc (.map #[] 0)):=by
   simp only [execOp]
   rfl
  unfold Oper.wp
  rw [hex]
  exact k _ _ ⟨_,rfl,hS.new (World.grownBy_alloc w _ none) ⟨(heap_alloc w _).1,rfl⟩ (by simp [Asr.fp])⟩) (by rintro _ w' ⟨r,rfl,h⟩;exact k r w' h)
theorem a7p (hS:St F w0 w Γ) (hT:TabOk P T) {t Kt Et:TypeId} {m x:Operand} {r c:Nat} (i:Nat) {es:Array MapEntry} {L:List (List UInt8×Int)} {s:List UInt8} {u:Int} (ht:P.underlying t=some (.map Kt Et)) (hK:P.underlying Kt=some .string) (hE:T.get Et=some (.sc (.int .i64) 1 (.int .i64 0))) (hm:E.ev m=some (.map (some r))) (hx:E.ev x=some (.string ⟨s.toArray⟩)) (hi:Γ[i]?=some (.obj r (.map es c))) (hL:MapN es L)
  (hv:(s,u) ∈ L∨((∀ v,(s,v) ∉ L)∧u=0)) (hd:Nat.blt d n=true) (k:WL P ops Q rest n ds ((d,.int .i64 u)::E) w):WL P ops Q (⟨some d,.lookup t m x false,ty,pos,after,none⟩::rest) n ds E w :=
 y7 (Φ:=fun v w'=>v=.int .i64 u∧w'=w) hd (Gets.of_at fun a ha=>by
  have hat:=hL.at_ (hS.at_ hi).1
  obtain ⟨zi,_,_,hzi,_,hz,_⟩:=hT.sc hE
  have hz':(zeroValue Et).run P w=.ok (.int .i64 0) w:=by simp [zeroValue,typeInfo,hzi,hz]
  have hrun:(Instr.lookup t (.map (some r)) (.string ⟨s.toArray⟩) false).run P w=.ok (.int .i64 u) w:=by
   rcases hv with hv|⟨hv,rfl⟩
   ·exact a10 (k:=.string ⟨s.toArray⟩) (v:=.int .i64 u) ht hK hat trivial (List.mem_map.2 ⟨(s,u),hv,rfl⟩) false
   ·refine a1A (k:=.string ⟨s.toArray⟩) ht hK hat trivial (fun v hv'=>?_) hz' false
    obtain ⟨q,hq,e⟩:=List.mem_map.1 hv'
    simp only [Prod.mk.injEq] at e
    have:=a5b e.1
    exact hv q.2 (by rw [← this];exact hq)
  simp only [execOp,ha.ev hm,ha.ev hx,Sem.run_bind,hrun,Result.andThen_ok,Sem.run_pure]) (by rintro _ _ ⟨rfl,rfl⟩;exact k)
theorem b4F {t Kt Et:TypeId} {r c:Nat} {es:Array MapEntry} {L:List (List UInt8×Int)} {s:List UInt8} {u v:Int} (ht:P.underlying t=some (.map Kt Et)) (hK:P.underlying Kt=some .string) (hr:w.heap[r]?=some (.map es c)) (hL:MapN es L) (hm:(s,u) ∈ L) :
  ∃ es',(Instr.mapUpdate t (.map (some r)) (.string ⟨s.toArray⟩) (.int .i64 v)).run P w=.ok () { w with heap:=w.heap.setIfInBounds r (.map es' c) }∧∃ L',MapN es' L'∧(s,v) ∈ L':=by
 have hat:=hL.at_ hr
 have hk:IsKey .string (Value.string ⟨s.toArray⟩):=trivial
 have hkeys:∀ e ∈ es.toList,IsKey .string e.key:=fun e he=>hat.keys (e.key,e.val) (by rw [← hL.held];exact List.mem_map.2 ⟨e,he,rfl⟩)
 have hnd:(es.toList.map (·.key)).Nodup:=by
  have:=hat.once
  rw [← hL.held,List.map_map] at this
  exact this
 have hmem:∃ e ∈ es.toList,e.key=.string ⟨s.toArray⟩∧e.val=.int .i64 u:=by
  have:((Value.string ⟨s.toArray⟩,Value.int .i64 u):Value×Value) ∈ es.toList.map (fun e=>(e.key,e.val)):=by
   rw [hL.held];exact List.mem_map.2 ⟨(s,u),hm,rfl⟩
  obtain ⟨e,he,h2⟩:=List.mem_map.1 this
  simp only [Prod.mk.injEq] at h2
  exact ⟨e,he,h2⟩
 obtain ⟨j,hj,hf,hkj⟩:=a3k (v:=.int .i64 u) hk es.toList 0 hkeys hnd hmem
 rw [Nat.zero_add] at hf
 have h1:=run_checkKey (P:=P) (w:=w) hK hk false 9999
 have h2:=run_findKey (P:=P) (w:=w) hK hf
 have hjs:j < es.size:=by simpa using hj
 have hkj':(es[j]?.map (·.key)).getD (Value.string ⟨s.toArray⟩)=.string ⟨s.toArray⟩:=by
  rw [show es[j]?=es.toList[j]? by simp,hkj];rfl
 have h3:=run_keyThatStays (P:=P) (w:=w) hk
 refine ⟨es.modify j fun e=>{ e with key:=.string ⟨s.toArray⟩,val:=.int .i64 v },?_,L.set j (s,v),⟨?_,?_⟩,?_⟩
 ·simp only [Instr.mapUpdate,run_underlying ht,Go.MapKept.run_getObj_map hr,h1,h2,Result.andThen_ok,Sem.run_bind,hkj',h3,run_setObj_map _ hr]
 ·refine List.ext_getElem? fun m=>?_
  rw [List.map_set,← hL.held,Array.toList_modify,List.getElem?_map,List.getElem?_modify,List.getElem?_set,List.getElem?_map,List.length_map]
  by_cases e:j=m
  ·subst e
   have:es.toList[j]?=some es[j]:=by simp [hjs]
   rw [this,if_pos rfl,if_pos hj]
   simp
  ·simp [e]
 ·have hLj:∃ q,L[j]?=some q∧q.1=s:=by
   have h4:=congrArg (fun l=>l[j]?) hL.held
   simp only [List.getElem?_map] at h4
   cases hq:L[j]? with
   |none=>rw [hq] at h4;simp [hjs] at h4
   |some q=>
    refine ⟨q,rfl,?_⟩
    rw [hq] at h4
    have h5:es.toList[j]?=some es[j]:=by simp [hjs]
    rw [h5] at h4 hkj
    simp only [Option.map_some,Option.some.injEq,Prod.mk.injEq] at h4 hkj
    exact a5b (h4.1.symm.trans hkj)
  obtain ⟨q,hq,hqs⟩:=hLj
  rw [List.map_set]
  have:(L.map (·.1)).set j s=L.map (·.1):=by
   refine List.ext_getElem? fun m=>?_
   rw [List.getElem?_set]
   split
   ·rename_i e
    subst e
    simp only [List.length_map,List.getElem?_map,hq,Option.map_some,hqs]
    rw [if_pos (j3 hq)]
   ·rfl
  rw [show (s,v).1=s from rfl,this]
  exact hL.once
 ·have:j < L.length:=by have:=congrArg List.length hL.held;rw [List.length_map,List.length_map] at this;omega
  exact List.mem_iff_getElem?.2 ⟨j,by simp [this]⟩
theorem b4z {t Kt Et:TypeId} {r c:Nat} {es:Array MapEntry} {L:List (List UInt8×Int)} {s:List UInt8} {v:Int} (ht:P.underlying t=some (.map Kt Et)) (hK:P.underlying Kt=some .string) (hr:w.heap[r]?=some (.map es c)) (hL:MapN es L) (hm:∀ v,(s,v) ∉ L) :
  ∃ es' c',(Instr.mapUpdate t (.map (some r)) (.string ⟨s.toArray⟩) (.int .i64 v)).run P w=.ok () { w with heap:=w.heap.setIfInBounds r (.map es' c') }∧MapN es' (L++[(s,v)]):=by
 have hat:=hL.at_ hr
 have hk:IsKey .string (Value.string ⟨s.toArray⟩):=trivial
 have hkeys:∀ e ∈ es.toList,IsKey .string e.key:=fun e he=>hat.keys (e.key,e.val) (by rw [← hL.held];exact List.mem_map.2 ⟨e,he,rfl⟩)
 have hno:∀ e ∈ es.toList,e.key≠.string ⟨s.toArray⟩:=fun e he hek=>by
  have:(e.key,e.val) ∈ L.map fun p=>(Value.string ⟨p.1.toArray⟩,Value.int .i64 p.2):=by rw [← hL.held];exact List.mem_map.2 ⟨e,he,rfl⟩
  obtain ⟨q,hq,h2⟩:=List.mem_map.1 this
  simp only [Prod.mk.injEq] at h2
  exact hm q.2 (by rw [← a5b (h2.1.trans hek)];exact hq)
 have hf:=a2G hk es.toList 0 hkeys hno
 have h1:=run_checkKey (P:=P) (w:=w) hK hk false 9999
 have h2:=run_findKey (P:=P) (w:=w) hK hf
 refine ⟨es.push { key:=.string ⟨s.toArray⟩,val:=.int .i64 v,born:=c },c + 1,?_,?_,?_⟩
 ·simp only [Instr.mapUpdate,run_underlying ht,Go.MapKept.run_getObj_map hr,h1,h2,Result.andThen_ok,Sem.run_bind,run_setObj_map _ hr]
 ·simp [hL.held]
 ·rw [List.map_append,List.nodup_append]
  refine ⟨hL.once,by simp,fun a ha b hb'=>?_⟩
  have:b=s:=by simpa using hb'
  subst this
  rintro rfl
  obtain ⟨p,hp,hpk⟩:=List.mem_map.1 ha
  exact hm p.2 (by rw [← hpk];exact hp)
theorem b4O (hS:St F w0 w Γ) {t Kt Et:TypeId} {m x y:Operand} {r c:Nat} (i:Nat) {es:Array MapEntry} {L:List (List UInt8×Int)} {s:List UInt8} {v:Int} (ht:P.underlying t=some (.map Kt Et)) (hK:P.underlying Kt=some .string) (hm:E.ev m=some (.map (some r))) (hx:E.ev x=some (.string ⟨s.toArray⟩)) (hy:E.ev y=some (.int .i64 v)) (hi:Γ[i]?=some (.obj r (.map es c))) (hL:MapN es L)
  (k1:(∃ u,(s,u) ∈ L)→∀ es' c' L' w',MapN es' L'→(s,v) ∈ L'→St F w0 w' (Γ.set i (.obj r (.map es' c')))→WL P ops Q rest n ds E w')
  (k2:(∀ u,(s,u) ∉ L)→∀ es' c' w',MapN es' (L++[(s,v)])→St F w0 w' (Γ.set i (.obj r (.map es' c')))→WL P ops Q rest n ds E w'):WL P ops Q (⟨none,.mapUpdate t m x y,ty,pos,after,none⟩::rest) n ds E w:=by
 have hr:=(hS.at_ hi).1
 have hst:∀ (es':Array MapEntry) (c':Nat),St F w0 { w with heap:=w.heap.setIfInBounds r (.map es' c') } (Γ.set i (.obj r (.map es' c'))):=fun es' c'=>by
  have hset:=heap_set (o':=Obj.map es' c') hr
  exact hS.upd hi ⟨rfl,rfl,rfl,by simp,fun g _ hg=>hset.2 g (fun e=>hg (by simp [Asr.fp,e]))⟩ ⟨hset.1,rfl⟩ (fun q hq=>Or.inl hq)
 have go:∀ (es':Array MapEntry) (c':Nat),(Instr.mapUpdate t (.map (some r)) (.string ⟨s.toArray⟩) (.int .i64 v)).run P w=.ok () { w with heap:=w.heap.setIfInBounds r (.map es' c') }→(∀ w',St F w0 w' (Γ.set i (.obj r (.map es' c')))→WL P ops Q rest n ds E w')→WL P ops Q (⟨none,.mapUpdate t m x y,ty,pos,after,none⟩::rest) n ds E w:=fun es' c' hrun k=>
  a1M (Φ:=fun _ w'=>St F w0 w' (Γ.set i (.obj r (.map es' c')))) (fun a ha K Q kk=>by
   have hex:(execOp a.eval ⟨none,.mapUpdate t m x y,ty,pos,after,none⟩).run P w=.ok .skip { w with heap:=w.heap.setIfInBounds r (.map es' c') }:=by
    simp only [execOp,ha.ev hm,ha.ev hx,ha.ev hy,Sem.run_bind,hrun,Result.andThen_ok,Sem.run_pure]
   unfold Oper.wp
   rw [hex]
   exact kk undef _ (hst es' c')) (fun _ w' h=>k w' h)
 by_cases hex:∃ u,(s,u) ∈ L
 ·obtain ⟨u,hu⟩:=hex
  obtain ⟨es',hrun,L',h1,h2⟩:=b4F (v:=v) ht hK hr hL hu
  exact go es' c hrun (fun w' h=>k1 ⟨u,hu⟩ es' c L' w' h1 h2 h)
 ·have hno:∀ u,(s,u) ∉ L:=fun u hu=>hex ⟨u,hu⟩
  obtain ⟨es',c',hrun,h1⟩:=b4z (v:=v) ht hK hr hL hno
  exact go es' c' hrun (fun w' h=>k2 hno es' c' w' h1 h)
end
end Go.Proofs.Ytejnpppejalhfac
/- Does a name stand twice? -/
namespace Go.Proofs.Ytejnpppejalhfac
open Go.RowKit Go.Sort
def a48 (l:List (List UInt8)) (i:Nat):List (List UInt8×Int):=(l.take i).map fun s=>(s,1)
theorem a4k {l:List (List UInt8)} {i:Nat} {x:List UInt8} {u:Int}:(x,u) ∈ a48 l i ↔ x ∈ l.take i∧u=1:=by
 unfold a48
 rw [List.mem_map]
 constructor
 ·rintro ⟨y,h1,h2⟩;cases h2;exact ⟨h1,rfl⟩
 ·rintro ⟨h1,rfl⟩;exact ⟨x,h1,rfl⟩
set_option maxRecDepth 100000 in
set_option maxHeartbeats 2000000 in
theorem a8J {l:List (List UInt8)} {w:World} {v:Value} (hl:Sl nF w 1 v (l.map stC)):Fn Try.prog 85 [v] w (RBf (.bool (pB (Dup l))) w):=by
 have bl:=hl.bound
 obtain ⟨pl,cl,rfl⟩:=hl.len
 refine j0 (fn:=Try.f85) ⟨Try.func85,by kernel_rfl,by kernel_rfl⟩ (by exact rfl) Try.ntmps85 (by exact rfl) ?_
 have hS:=St.start w
 repeat' (first|(((with_reducible apply d6 c8);exact rfl;exact rfl))|(first|(with_reducible first|apply d8|apply c9|apply d7|apply d5|apply e7))|((with_reducible apply b0M hS);exact rfl;intro r w' hS';clear hS;have hS:=hS';clear hS'))
 refine o6 (X:=Nat×Array MapEntry×Nat) (fun x=>[(9,.int .i64 (x.1:Nat))]) [3,7,8] rfl (fun x=>[.obj r (.map x.2.1 x.2.2)]) (fun x=>x.1≤l.length∧MapN x.2.1 (a48 l x.1)) (fun x=>l.length - x.1) (0,#[],0) (by repeat (first|exact Fr.sub_nil _|(apply Fr.sub_cons;exact rfl))) ⟨Nat.zero_le _,MapN.nil⟩ hS ?_
 clear hS
 rintro ⟨i,es,c⟩ w1 ⟨hi,hL⟩ hS
 simp only [List.cons_append,List.nil_append] at hi hL hS ⊢
 by_cases hlt:i < l.length
 ·obtain ⟨x,hx⟩:=l8 (l:=l) (i:=i) (by omega)
  have hrow:=j9 (f:=stC) hx
  obtain ⟨b,off,rfl,hro⟩:=hl.at_ hlt
  by_cases hin:x ∈ l.take i
  ·have hv:(x,(1:Int)) ∈ a48 l i∨((∀ v,(x,v) ∉ a48 l i)∧(1:Int)=0):=Or.inl (a4k.2 ⟨hin,rfl⟩)
   repeat' (first|(first|((with_reducible apply m0);exact rfl;exact rfl;omega;omega;exact rfl)|((with_reducible apply d6 c8);exact rfl;exact rfl)|((with_reducible apply d9);exact rfl;(((with_reducible apply Loads.sc c8);exact rfl;((exact hS.roC0 (by assumption) (by assumption) rfl))));exact rfl)|((with_reducible apply p8 c8);(iterate 3 exact rfl);((exact rfl));((omega));exact rfl))|(first|(with_reducible first|apply d8|apply c9|apply d7|apply d5|apply g8|apply e7|apply j5|apply e6|apply j8))|(first|((with_reducible apply k9);exact rfl;(exact rfl))|((with_reducible apply k6);exact rfl;all_goals (intro hb hp;try (exfalso;omega))))|((with_reducible apply a7p hS c8 0 (u:=1) (ht:=Try.underlying146) (hK:=Try.underlying9) (hL:=hL));(iterate 4 exact rfl);exact hv;exact rfl)|((with_reducible apply b4O hS 0 (ht:=Try.underlying146) (hK:=Try.underlying9) (hL:=hL));(iterate 4 exact rfl);(intro hex es2 c2 L2 w' hL2 hin2 hS';simp only [List.set] at hS';clear hS;have hS:=hS';clear hS');rotate_left;(intro hex es2 c2 w' hL2 hS';simp only [List.set] at hS';clear hS;have hS:=hS';clear hS');rotate_left)|((with_reducible apply a7p hS c8 0 (u:=(1 + 1:Int)) (ht:=Try.underlying146) (hK:=Try.underlying9) (hL:=hL2));(iterate 4 exact rfl);(left;assumption);exact rfl))
   ·(apply j6);(repeat (first|exact ResL.nil|(apply ResL.tmp;exact rfl)))
    refine ⟨?_,hS.sub (List.nil_sublist _)⟩
    obtain ⟨j,hj⟩:=List.mem_iff_getElem?.1 hin
    have hji:=j3 hj
    rw [List.length_take] at hji
    rw [List.getElem?_take,if_pos (by omega)] at hj
    rw [a35 ⟨i,j,x,by omega,hx,hj⟩]
   ·exact (hex 1 (a4k.2 ⟨hin,rfl⟩)).elim
  ·have hv:(x,(0:Int)) ∈ a48 l i∨((∀ v,(x,v) ∉ a48 l i)∧(0:Int)=0):=Or.inr ⟨fun v hv=>hin (a4k.1 hv).1,rfl⟩
   have hin3:(x,(0 + 1:Int)) ∈ a48 l i++[(x,(0 + 1:Int))]:=by simp
   repeat' (first|(first|((with_reducible apply m0);exact rfl;exact rfl;omega;omega;exact rfl)|((with_reducible apply d6 c8);exact rfl;exact rfl)|((with_reducible apply d9);exact rfl;(((with_reducible apply Loads.sc c8);exact rfl;((exact hS.roC0 (by assumption) (by assumption) rfl))));exact rfl)|((with_reducible apply p8 c8);(iterate 3 exact rfl);((exact rfl));((omega));exact rfl))|(first|(with_reducible first|apply d8|apply c9|apply d7|apply d5|apply g8|apply e7|apply k8))|(first|((with_reducible apply l6);exact rfl;(exact rfl))|((with_reducible apply k6);exact rfl;all_goals (intro hb hp;try (exfalso;omega))))|((with_reducible apply a7p hS c8 0 (u:=0) (ht:=Try.underlying146) (hK:=Try.underlying9) (hL:=hL));(iterate 4 exact rfl);exact hv;exact rfl)|((with_reducible apply b4O hS 0 (ht:=Try.underlying146) (hK:=Try.underlying9) (hL:=hL));(iterate 4 exact rfl);(intro hex es2 c2 L2 w' hL2 hin2 hS';simp only [List.set] at hS';clear hS;have hS:=hS';clear hS');rotate_left;(intro hex es2 c2 w' hL2 hS';simp only [List.set] at hS';clear hS;have hS:=hS';clear hS');rotate_left)|((with_reducible apply a7p hS c8 0 (u:=(0 + 1:Int)) (ht:=Try.underlying146) (hK:=Try.underlying9) (hL:=hL2));(iterate 4 exact rfl);(left;assumption);exact rfl))
   ·obtain ⟨u,hu⟩:=hex
    exact (hin (a4k.1 hu).1).elim
   ·rw [show a48 l i++[(x,(0 + 1:Int))]=a48 l (i + 1) by unfold a48;rw [a2v hx];simp] at hL2
    exact m6 (i + 1,es2,c2) (by repeat (first|exact Fr.sub_nil _|(apply Fr.sub_cons;exact rfl))) ⟨by show i + 1≤l.length;omega,hL2⟩ hS (by show l.length - (i + 1) < l.length - i;omega)
 ·repeat' (first|(((with_reducible apply d6 c8);exact rfl;exact rfl))|(first|(with_reducible first|apply d8|apply c9|apply d7|apply d5|apply n5|apply j5|apply j4|apply i9))|(((with_reducible apply k6);exact rfl;all_goals (intro hb hp;try (exfalso;omega)))))
  (apply j6);(repeat (first|exact ResL.nil|(apply ResL.tmp;exact rfl)))
  refine ⟨?_,hS.sub (List.nil_sublist _)⟩
  rw [a2Y]
  rintro ⟨a,b,x,h1,h2,h3⟩
  have hn:=hL.once
  unfold a48 at hn
  rw [List.take_of_length_le (by omega),List.map_map] at hn
  have:((fun p:List UInt8×Int=>p.1) ∘ fun s=>(s,1))=(id:List UInt8→List UInt8):=rfl
  rw [show ((fun p:List UInt8×Int=>p.1) ∘ fun s=>(s,(1:Int)))=(id:List UInt8→List UInt8) from rfl,List.map_id] at hn
  obtain ⟨ha,ea⟩:=List.getElem?_eq_some_iff.1 h2
  obtain ⟨hb,eb⟩:=List.getElem?_eq_some_iff.1 h3
  exact (List.pairwise_iff_getElem.1 hn b a hb ha h1) (eb.trans ea.symm)
end Go.Proofs.Ytejnpppejalhfac
