/- Texts that the proof stands on, one behind the other: Ke6, Ke7, Sc24. -/
import Derived.Test.YtejnpppejalhfacGreatPKernelForks5
set_option linter.unusedVariables false
set_option linter.unusedSimpArgs false
namespace Go.Proofs.YtejnpppejalhfacGreat
set_option maxRecDepth 100000
set_option maxHeartbeats 8000000
open Go.RowKit Go.Sort
theorem a4i {P:Program} {n:Nat} {ds:List Deferred} {E:Fr} {w:World} {Q:Exit->Act->World->Prop} {F:Nat->Prop} {w0:World} {Γ:List Asr} (k q:Nat) {id:Nat} {l:List Oper} (m:Nat) (hl:l.length=m) (hS:St F w0 w Γ) (hm:P.follows .mixedOrders=true) (h:∀ w1,St F w0 w1 Γ->WT P l.toArray Q (fun w'=>St F w0 w' (Γ.take k)) q m (Array.replicate m false) n ds E w1):WC P (.region id l.toArray true) Q n ds E w:=b1E _ q m hl hS hm h
theorem b0d {α β:Type} (A:List α) (B:List β) (hA:(A.length:Int)<=9223372036854775807) (hB:(B.length:Int)<=9223372036854775807):decide (IntKind.i64.wrap ((A.length:Int) + (B.length:Int))=0)=decide (A=[]/\B=[]):=by
 refine xo1.2 ⟨fun h=>?_,fun ⟨h1,h2⟩=>by rw [h1,h2];rfl⟩;have h2:A.length=0/\B.length=0:=by
  simp only [IntKind.wrap,IntKind.signed,IntKind.bits] at h;omega
 exact ⟨xe8 h2.1,xe8 h2.2⟩
theorem b2W (l:NL):(nlC l).length=l.length:=by unfold nlC;simp
theorem n5 {α:Type} {l:List α} {i:Nat} {x:α} (h:l[i]?=some x):l.take (i + 1)=l.take i++[x]:=by
 obtain ⟨h1,rfl⟩:=xa6.1 h;rw [xj9,xd8 h1];rfl
theorem a99 {F:Nat->Prop} {w0 w:World} {Γ:List Asr} {gl gk:Nat} {vsh vF vS:Value} {room:Int} {l:List (Sh×Value)} {NF NS:NL} {p:Sp}
  (hS0:St F w0 w (lkS gl (.pointer (some ⟨gk,0,none⟩)) vF vS room NF NS++Γ)) (hk:Bs (fps (lkS gl (.pointer (some ⟨gk,0,none⟩)) vF vS room NF NS)) w ⟨gk,0,none⟩ vsh) (hL:ShsF (fps (lkS gl (.pointer (some ⟨gk,0,none⟩)) vF vS room NF NS)) w l vsh) (hr:y5 0 (shs l)=true)
  (har:Sl (fps (lkS gl (.pointer (some ⟨gk,0,none⟩)) vF vS room NF NS)) w 4 p.va (p.s.areas.map arC)) (hen:Sl (fps (lkS gl (.pointer (some ⟨gk,0,none⟩)) vF vS room NF NS)) w 3 p.ve (p.s.entries.map enC)) (hrm:0<=room/\room<=1000000) (hF:∀ x ∈ NF,x.2.length<=1000) (hSl:∀ x ∈ NS,x.2.length<=1000) :
  Fn Tryz.prog 127 [.pointer (some ⟨gl,0,none⟩),.agg (spC p).toArray] w (fun v w'=>v=.bool (n7 (shs l) NF.length NS.length p.s)/\∃ NF' NS' room',St (fps (lkS gl (.pointer (some ⟨gk,0,none⟩)) vF vS room NF NS)) w w' (lkS gl (.pointer (some ⟨gk,0,none⟩)) vF vS room' NF' NS')/\(n7 (shs l) NF.length NS.length p.s=true->room'=room + r9 p.s.areas/\Grown NF NF' 1 (p.s.entries.map (a0D p.s))/\Grown NS NS' 2 (p.s.entries.map (a0D p.s)))):=by
 obtain ⟨s,va,ve⟩:=p;obtain ⟨live,A,es⟩:=s;dsimp only at har hen |-;have hSs:=St.startM hS0;generalize hG:fps (lkS gl (.pointer (some ⟨gk,0,none⟩)) vF vS room NF NS)=G at hSs hk hL har hen |-;clear hG hS0;have bA:=(har.now hSs).bound;have bE:=(hen.now hSs).bound;obtain ⟨pa,ca,rfl⟩:=(har.now hSs).len;obtain ⟨pe,ce,rfl⟩:=(hen.now hSs).len;have hS:=hSs;unfold lkS at hS;obtain ⟨pF,cF,hvF⟩:=hS.rowSlice 1 rfl;obtain ⟨pS,cS,hvS⟩:=hS.rowSlice 2 rfl;rw [b2W] at hvF hvS;subst hvF hvS;unfold spC n7;dsimp only
 cases live with
 |false=>
  simp only [xm4,if_false];have hd:=b0d A es bA bE;refine yEn Tryz.func127 Tryz.ntmps127 (by kernel_rfl) (by kernel_rfl) rfl rfl ?_
  repeat' (first|(with_reducible apply d5 c9);rfl;rfl;rfl|(with_reducible apply d6);rfl;(first|apply Ld.sc c9;rfl;exact hS.blkC 0 rfl rfl|apply Ld.sl c9;rfl;exact hS.blkC 0 rfl rfl);rfl|(with_reducible apply a6b c9);rfl;rfl|refine yDn (by with_reducible constructor) ?_|(with_reducible apply i4);rfl;rfl|(with_reducible apply j6 hS);rfl;rfl;rfl;clear hS;intro g w' hS)
  (refine j5 rfl ?_)
  refine ⟨by rw [hd],NF,NS,room,hS.drop,fun h=>?_⟩;obtain ⟨rfl,rfl⟩:=xm3 h;exact ⟨by simp [r9],Grown.refl _ _,Grown.refl _ _⟩
 |true=>
  simp only [if_true];have hchk:=fun w1 (h:Sl nF w1 4 (.slice pa A.length ca) (A.map arC))=>b1j h;by_cases hc:j3 A=0;rotate_left
  ·have hd:(!decide (j3 A=0))=true:=by rw [xj4 hc];rfl
   have hbad:(decide (j3 A=0) && (a0J (shs l) A && a0u A NF.length NS.length 0 es))=false:=by rw [xj4 hc,xn9]
   refine yEn Tryz.func127 Tryz.ntmps127 (by kernel_rfl) (by kernel_rfl) rfl rfl ?_
   repeat' (first|(with_reducible apply d5 c9);rfl;rfl;rfl|(with_reducible apply d6);rfl;(first|apply Ld.sc c9;rfl;exact hS.blkC 0 rfl rfl|apply Ld.sl c9;rfl;exact hS.blkC 0 rfl rfl);rfl|refine yDn (by with_reducible constructor) ?_|(with_reducible apply i4);rfl;assumption|(with_reducible apply i5);rfl;rfl|(with_reducible apply j6 hS);rfl;rfl;rfl;clear hS;intro g w' hS|(with_reducible apply f8 hS);rfl;rfl;rfl;refine ⟨_,hchk _ (har.now hS),?_⟩;clear hS;intro w' hS)
   (refine j5 rfl ?_)
   refine ⟨by rw [hbad],_,_,_,hS.sub (by repeat (first|exact xh6 _|apply xh7)),fun h=>?_⟩;rw [hbad] at h
   cases h
  have hd:(!decide (j3 A=0))=false:=by rw [xj1 hc];rfl
  have htot:=fun w1 (h:Sl nF w1 4 (.slice pa A.length ca) (A.map arC))=>a4D h;rw [xe6 hc] at htot;obtain ⟨hAl,hgood⟩:=o8.1 hc;have hok:=y7 hgood;have hsum:=a4d hok A.length;rw [xg0] at hsum;rw [xj1 hc,xn8];refine yEn Tryz.func127 Tryz.ntmps127 (by kernel_rfl) (by kernel_rfl) rfl rfl ?_
  repeat' (first|(with_reducible apply d5 c9);rfl;rfl;rfl|(with_reducible apply d6);rfl;(first|apply Ld.sc c9;rfl;exact hS.blkC 0 rfl rfl|apply Ld.sl c9;rfl;exact hS.blkC 0 rfl rfl);rfl|refine yDn (by with_reducible constructor) ?_|((with_reducible apply i5);rfl;first|rfl|assumption)|(with_reducible apply j6 hS);rfl;rfl;rfl;clear hS;intro g w' hS|(with_reducible apply f8 hS);rfl;rfl;rfl;refine ⟨_,hchk _ (har.now hS),?_⟩;clear hS;intro w' hS)
  (focus ((with_reducible apply a0Z _ _ _ 10 (by kernel_rfl) (by kernel_rfl) hS);(simp only [xi4,xi5,xh9,xi0]);(repeat' (first|(first|(with_reducible apply a3m);rfl;rfl;omega;omega;rfl|(with_reducible apply f9 c9);rfl;rfl|(with_reducible apply g8);rfl;(intro wd hd;replace hd:St _ _ wd _:=hd;(first|apply Ld.sc c9;rfl;exact hd.blkC 1 rfl rfl|apply Ld.sl c9;rfl;exact hd.blkC 0 rfl rfl));rfl)|(with_reducible apply m6);rfl;rfl;rfl;refine ⟨_,fun wd hd=>htot _ (har.now hd),?_⟩));all_goals ((with_reducible apply i9);intro w' hS';clear hS;have hS:=hS';clear hS')))
  repeat' (first|(with_reducible apply d5 c9);rfl;rfl;rfl|(with_reducible apply d6);rfl;(apply Ld.sl c9;rfl;exact hS.blkC 0 rfl rfl);rfl|refine yDn (by with_reducible constructor) ?_|(with_reducible apply d7 hS c9 (i:=1));(iterate 8 rfl);exact (rfl:_=[_,_,_,_]);clear hS;intro w' hS;simp only [List.set] at hS)
  refine k9 (X:=Nat) (fun x=>[(44,.int .i64 (x:Nat))]) [0,3,42,43] rfl (fun _=>[]) (fun x=>x<=A.length/\∀ (i:Nat) a,i < x->A[i]?=some a->∀ j:Nat,(j:Int) < a.n->a2p (shs l) a j=true) (fun x=>A.length - x) 0 (by exact Fr.sub_of rfl) ⟨by omega,fun i a h=>by omega⟩ hS ?_;clear hS;rintro i w1 ⟨hi,hall⟩ hS;dsimp only [List.cons_append,List.nil_append] at hi hall hS |-;by_cases hlt:i < A.length
  ·obtain ⟨a,ha⟩:=i3 (l:=A) (i:=i) (by omega);have hrow:=f6 (f:=arC) ha;obtain ⟨b,off,rfl,hro⟩:=har.atF (i:=i) hlt;have hak:=hok i a ha;unfold Ar.ok at hak;unfold arC at hrow;have hfill:=fun w1 Γ (h:St G w w1 Γ) (q:Int) (hq:-1000000<=q/\q<=1000000)=>a45 (a:=a) (F:=nF) (Bs.of (h.bs hk)) (hL.now h) hr hq;unfold a8L arC at hfill
   repeat' (first|(with_reducible apply d5 c9);rfl;rfl;rfl|(with_reducible apply d6);rfl;(first|apply Ld.sc c9;rfl;exact hS.blkC 0 rfl rfl|apply Ld.st c9;rfl;exact hS.roR (by assumption) (by assumption);rfl);rfl|(with_reducible apply l3 c9);rfl;rfl;rfl;rfl;omega;rfl|refine yDn (by with_reducible constructor) ?_|(with_reducible apply f7 hS c9);rfl;rfl;rfl;clear hS;intro g w' hS|(with_reducible apply d7 hS c9 (i:=0));(iterate 8 rfl);exact (rfl:_=[_,_,_,_]);clear hS;intro w' hS;simp only [List.set] at hS|(with_reducible apply d9);rfl;all_goals (intro hb hp;try (exfalso;omega)))
   refine k9 (X:=Nat×Int) (fun x=>[(7,.int .i64 x.2)]) [0,3,6,42,43,44] rfl (fun _=>[]) (fun x=>(x.1:Int)<=a.n/\x.2=a.pg + (x.1:Nat)/\∀ j:Nat,j < x.1->a2p (shs l) a j=true) (fun x=>a.n.toNat - x.1) (0,a.pg) (by exact Fr.sub_of rfl) ⟨by show ((0:Nat):Int)<=a.n;omega,by show a.pg=a.pg + ((0:Nat):Int);omega,fun j h=>by omega⟩ hS ?_;clear hS;rintro ⟨j,q⟩ w1 ⟨hj,hq,hpj⟩ hS;dsimp only [List.cons_append,List.nil_append] at hj hq hpj hS |-;by_cases hjl:q < a.pg + a.n;rotate_left
   ·repeat' (first|(with_reducible apply d5 c9);rfl;rfl;rfl|(with_reducible apply d6);rfl;(apply Ld.sc c9;rfl;exact hS.blkC 0 rfl rfl);rfl|(with_reducible apply j0);rfl;rfl;omega;omega;rfl|refine yDn (by with_reducible constructor) ?_|(with_reducible apply d9);rfl;all_goals (intro hb hp;try (exfalso;omega)))
    refine g0 (i + 1) (by exact Fr.sub_of rfl) ⟨by omega,fun i' a' hi' ha' j' hj'=>?_⟩ hS.drop (by omega);rcases xn1.1 hi' with h|h
    ·exact hall i' a' h ha' j' hj'
    ·subst h;rw [ha] at ha'
     cases ha'
     exact hpj j' (by omega)
   ·cases hpk:a2p (shs l) a j with
    |false=>
     have hbad:(a0J (shs l) A && a0u A NF.length NS.length 0 es)=false:=by rw [a6h ha (by omega) hpk,xn9]
     unfold a2p at hpk;rw [<- hq] at hpk;have hd:(!(a0d (shs l) a.z q).isSome)=true:=by rw [hpk];rfl
     repeat' (first|(with_reducible apply d5 c9);rfl;rfl;rfl|(with_reducible apply d6);rfl;(apply Ld.sc c9;rfl;exact hS.blkC 0 rfl rfl);rfl|(with_reducible apply j0);rfl;rfl;omega;omega;rfl|refine yDn (by with_reducible constructor) ?_|(with_reducible apply d9);rfl;all_goals (intro hb hp;try (exfalso;omega)))
     (focus ((with_reducible apply f5 _ _ _ (by kernel_rfl) (by kernel_rfl) hS);(repeat' (first|(first|(with_reducible apply f9 c9);rfl;rfl|(with_reducible apply g8);rfl;(intro wd hd;replace hd:St _ _ wd _:=hd;(first|apply Ld.sc c9;rfl;exact hd.blkC 2 rfl rfl|apply Ld.st c9;rfl;exact hd.blkR 0 rfl;rfl));rfl)|(with_reducible apply m6);rfl;rfl;rfl;refine ⟨_,fun wd hd=>hfill _ _ hd _ (by omega),?_⟩));all_goals ((with_reducible apply i9);intro w' hS';clear hS;have hS:=hS';clear hS')))
     repeat' (first|(with_reducible apply d5 c9);rfl;rfl;rfl|refine yDn (by with_reducible constructor) ?_|(with_reducible apply i4);rfl;assumption)
     (refine j5 rfl ?_)
     refine ⟨by rw [hbad],_,_,_,hS.sub (by repeat (first|exact xh6 _|apply xh7)),fun h=>?_⟩;rw [hbad] at h
     cases h
    |true=>
     have hpk':=hpk;unfold a2p at hpk';rw [<- hq] at hpk';have hd:(!(a0d (shs l) a.z q).isSome)=false:=by rw [hpk'];rfl
     repeat' (first|(with_reducible apply d5 c9);rfl;rfl;rfl|(with_reducible apply d6);rfl;(apply Ld.sc c9;rfl;exact hS.blkC 0 rfl rfl);rfl|(with_reducible apply j0);rfl;rfl;omega;omega;rfl|refine yDn (by with_reducible constructor) ?_|(with_reducible apply d9);rfl;all_goals (intro hb hp;try (exfalso;omega)))
     (focus ((with_reducible apply f5 _ _ _ (by kernel_rfl) (by kernel_rfl) hS);(repeat' (first|(first|(with_reducible apply f9 c9);rfl;rfl|(with_reducible apply g8);rfl;(intro wd hd;replace hd:St _ _ wd _:=hd;(first|apply Ld.sc c9;rfl;exact hd.blkC 2 rfl rfl|apply Ld.st c9;rfl;exact hd.blkR 0 rfl;rfl));rfl)|(with_reducible apply m6);rfl;rfl;rfl;refine ⟨_,fun wd hd=>hfill _ _ hd _ (by omega),?_⟩));all_goals ((with_reducible apply i9);intro w' hS';clear hS;have hS:=hS';clear hS')))
     repeat' (first|(with_reducible apply d5 c9);rfl;rfl;rfl|(with_reducible apply j0);rfl;rfl;omega;omega;rfl|refine yDn (by with_reducible constructor) ?_|(with_reducible apply i5);rfl;assumption)
     refine g0 (j + 1,q + 1) (by exact Fr.sub_of rfl) ⟨by show ((j + 1:Nat):Int)<=a.n;omega,by show q + 1=a.pg + ((j + 1:Nat):Int);omega,fun j' hj'=>?_⟩ hS (by show a.n.toNat - (j + 1) < a.n.toNat - j;omega);rcases xn1.1 hj' with h|h
     ·exact hpj j' h
     ·subst h;exact hpk
  obtain rfl:i=A.length:=by omega
  rw [a7w (fun i a ha=>hall i a (d8 ha) ha),xn8];clear hall
  repeat' (first|(with_reducible apply d5 c9);rfl;rfl;rfl|(with_reducible apply d6);rfl;(apply Ld.sl c9;rfl;exact hS.blkC 0 rfl rfl);rfl|refine yDn (by with_reducible constructor) ?_|(with_reducible apply d9);rfl;all_goals (intro hb hp;try (exfalso;omega)))
  rename Nat=>g
  replace hS:St G w w1 (.blk g [.bool true,.slice pa A.length ca,.slice pe es.length ce]::lkS gl (.pointer (some ⟨gk,0,none⟩)) (.slice pF NF.length cF) (.slice pS NS.length cS) (room + r9 A) NF NS):=hS;refine k9 (Γ:=[]) (X:=Nat×Int×NL×NL) (fun x=>[(75,.int .i64 (x.1:Nat)),(10,.int .i64 x.2.1)]) [0,3,73,74] rfl (fun x=>.blk g [.bool true,.slice pa A.length ca,.slice pe es.length ce]::lkS gl (.pointer (some ⟨gk,0,none⟩)) (.slice pF NF.length cF) (.slice pS NS.length cS) (room + r9 A) x.2.2.1 x.2.2.2) (fun x=>x.1<=es.length/\((x.1:Nat):Int)<=x.2.1/\x.2.1<=255/\a0u A NF.length NS.length 0 es=a0u A NF.length NS.length x.2.1 (es.drop x.1)/\Grown NF x.2.2.1 1 ((es.take x.1).map (a0D ⟨true,A,es⟩))/\Grown NS x.2.2.2 2 ((es.take x.1).map (a0D ⟨true,A,es⟩))) (fun x=>es.length - x.1) (0,0,NF,NS) (by exact Fr.sub_of rfl) ⟨xf8 _,xj0 _,by show (0:Int)<=255;omega,by simp,Grown.refl _ _,Grown.refl _ _⟩ (by simpa only [List.append_nil] using hS) ?_;clear hS hi hlt;rintro ⟨i,last,MF,MS⟩ w1 ⟨hi,hil,hl5,hents,hGF,hGS⟩ hS;dsimp only at hi hil hl5 hents hGF hGS hS |-;rw [List.append_nil] at hS;unfold lkS at hS;rw [hents];by_cases hlt:i < es.length;rotate_left
  ·obtain rfl:i=es.length:=by omega
   repeat' (first|(with_reducible apply d5 c9);rfl;rfl;rfl|refine yDn (by with_reducible constructor) ?_|(with_reducible apply d9);rfl;all_goals (intro hb hp;try (exfalso;omega)))
   (refine j5 rfl ?_)
   rw [List.drop_length];rw [xg0] at hGF hGS;exact ⟨rfl,MF,MS,_,hS.drop,fun _=>⟨rfl,hGF,hGS⟩⟩
  obtain ⟨e,he⟩:=i3 (l:=es) (i:=i) (by omega);have hrow:=f6 (f:=enC) he;obtain ⟨b,off,rfl,hro⟩:=hen.atF (i:=i) hlt;have hfind:=fun w1 (h:Sl nF w1 4 (.slice pa A.length ca) (A.map arC))=>b2z e.page h;rw [a8f hc] at hfind;unfold a3P arC at hfind;have hstep:=a5y (A:=A) (nf:=NF.length) (ns:=NS.length) (last:=last) he;rw [hstep];unfold a0R;have hnm:a0D ⟨true,A,es⟩ e=(e,(p7 A e.page).getD a1t):=rfl;have htk:=n5 he
  cases hsm:(p7 A e.page).isSome with
  |false=>
   rw [hsm] at hfind;have hbad:((false && decide (last < e.page/\((e.kind=1/\0<=e.at_/\e.at_ < (NF.length:Int))\/(e.kind=2/\0<=e.at_/\e.at_ < (NS.length:Int))))) && a0u A NF.length NS.length e.page (es.drop (i + 1)))=false:=rfl;obtain ⟨epg,ekd,eat⟩:=e;unfold enC at hrow;dsimp only at hrow hfind hbad |-
   repeat' (first|(with_reducible apply d5 c9);rfl;rfl;rfl|(with_reducible apply d6);rfl;(first|apply Ld.sc c9;rfl;(first|exact hS.blkC 0 rfl rfl|exact hS.blkC 1 rfl rfl)|apply Ld.sl c9;rfl;(first|exact hS.blkC 1 rfl rfl|exact hS.blkC 3 rfl rfl)|apply Ld.st c9;rfl;exact hS.roR (by assumption) (by assumption);rfl);rfl|(with_reducible apply l3 c9);rfl;rfl;rfl;rfl;omega;rfl|refine yDn (by with_reducible constructor) ?_|(with_reducible apply t6);(iterate 4 rfl);rfl;rfl|(with_reducible apply a0h);(iterate 5 rfl)|(with_reducible apply i6);rfl;rfl;rfl;rfl|(with_reducible apply i4);rfl;rfl|(with_reducible apply f7 hS c9);rfl;rfl;rfl;clear hS;intro g w' hS|(with_reducible apply d7 hS c9 (i:=0));(iterate 8 rfl);(first|exact (rfl:_=[_,_,_])|exact (rfl:_=[_,_,_,_]));clear hS;intro w' hS;simp only [List.set] at hS|(with_reducible apply d9);rfl;all_goals (intro hb hp;try (exfalso;omega))|(with_reducible apply f8 hS);rfl;rfl;rfl;refine ⟨_,hfind _ (har.now hS),?_⟩;clear hS;intro w' hS)
   all_goals ((apply a17;(repeat (first|exact ResL.nil|apply ResL.tmp;rfl));(refine ⟨by rw [hbad],_,_,_,hS.sub (by repeat (first|exact xh6 _|apply xh7)),fun h=>?_⟩);rw [hbad] at h;cases h))
  |true=>
   rw [hsm] at hfind;have hpg5:e.page<=255:=by
    obtain ⟨a,ha⟩:=xm6.1 hsm;have h1:=xn4 ha;have h2:=(a3a hc ha).1;unfold w9 at h1;rw [xb2] at h1;unfold Ar.ok at h2;unfold Ar.fin at h1;omega
   obtain ⟨a,hag⟩:∃ a,(p7 A e.page).getD a1t=a:=⟨_,rfl⟩;rw [hag] at hfind hnm;obtain ⟨epg,ekd,eat⟩:=e;unfold enC at hrow;dsimp only at hrow hfind hpg5 hnm |-;by_cases hk9:last < epg/\((ekd=1/\0<=eat/\eat < (NF.length:Int))\/(ekd=2/\0<=eat/\eat < (NS.length:Int)));rotate_left
   ·have hbad:((true && decide (last < epg/\((ekd=1/\0<=eat/\eat < (NF.length:Int))\/(ekd=2/\0<=eat/\eat < (NS.length:Int))))) && a0u A NF.length NS.length epg (es.drop (i + 1)))=false:=by rw [xj4 hk9];rfl
    repeat' (first|(with_reducible apply d5 c9);rfl;rfl;rfl|(with_reducible apply d6);rfl;(first|apply Ld.sc c9;rfl;(first|exact hS.blkC 0 rfl rfl|exact hS.blkC 1 rfl rfl)|apply Ld.sl c9;rfl;(first|exact hS.blkC 1 rfl rfl|exact hS.blkC 3 rfl rfl)|apply Ld.st c9;rfl;exact hS.roR (by assumption) (by assumption);rfl);rfl|(with_reducible apply l3 c9);rfl;rfl;rfl;rfl;omega;rfl|refine yDn (by with_reducible constructor) ?_|((with_reducible apply j8);(iterate 4 rfl);first|rfl|assumption)|(with_reducible apply t6);(iterate 4 rfl);(first|rfl|assumption);rfl|(with_reducible apply a0h);(iterate 5 rfl)|(with_reducible apply i6);rfl;(first|rfl|assumption);rfl;rfl|(with_reducible apply g6);rfl;(first|rfl|assumption);rfl;rfl|(with_reducible apply i4);rfl;rfl|(with_reducible apply f7 hS c9);rfl;rfl;rfl;clear hS;intro g w' hS|(with_reducible apply d7 hS c9 (i:=0));(iterate 8 rfl);(first|exact (rfl:_=[_,_,_])|exact (rfl:_=[_,_,_,_]));clear hS;intro w' hS;simp only [List.set] at hS|(with_reducible apply q7);rfl;rfl;rfl;all_goals (intro hb hp;try (exfalso;omega))|(with_reducible apply a0O);rfl;rfl;rfl;all_goals (intro hb hp;try (exfalso;omega))|(with_reducible apply d9);rfl;all_goals (intro hb hp;try (exfalso;omega))|(with_reducible apply f8 hS);rfl;rfl;rfl;refine ⟨_,hfind _ (har.now hS),?_⟩;clear hS;intro w' hS)
    all_goals ((apply a17;(repeat (first|exact ResL.nil|apply ResL.tmp;rfl));(refine ⟨by rw [hbad],_,_,_,hS.sub (by repeat (first|exact xh6 _|apply xh7)),fun h=>?_⟩);rw [hbad] at h;cases h))
   rw [xj1 hk9,xn8,xn8];obtain ⟨hk1,hk2⟩:=hk9;rcases hk2 with ⟨rfl,h0,h1⟩|⟨rfl,h0,h1⟩
   ·obtain ⟨j,rfl⟩:=xn2 h0;obtain ⟨y,hy⟩:∃ y,MF[j]?=some y:=i3 (by rw [hGF.1];omega);have hyl:y.2.length<=2000:=by
     obtain ⟨x0,hx0⟩:=i3 (l:=NF) (i:=j) (by omega);obtain ⟨v0,hv0⟩:=hGF.2 j x0 hx0;rw [hy] at hv0
     cases hv0
     have h8:=hF x0 (xc8 hx0);have h9:=xj7 (fun (n:Nm)=>decide (n.1.kind=1/\n.1.at_=((j:Nat):Int))) ((es.take i).map (a0D ⟨true,A,es⟩));rw [xh8,xa1] at h9;rw [xe5];omega
    replace hS:=hS.perm ((((((a40 hy).append_right (nlR MS)).cons _).cons _).cons _).cons _);have hrowF:(nlC MF)[j]?=some [y.1]:=f6 (f:=fun (x:Value×List Nm)=>[x.1]) hy;have hput:=fun v=>hGF.put (n:=((⟨epg,1,(j:Nat)⟩:En),a)) (v:=v) rfl rfl hy;have hskip:=hGS.skip (n:=((⟨epg,1,(j:Nat)⟩:En),a)) (by show ¬(1:Int)=_;omega);obtain ⟨vy,ny⟩:=y;unfold nsA at hS;dsimp only [List.cons_append] at hS hrowF hyl hput;obtain ⟨py,cy,rfl⟩:=hS.rowSlice 4 rfl;rw [xh8] at hS hrowF;obtain ⟨gF,rfl⟩:=hS.rowSome 2 rfl (by omega)
    repeat' (first|(with_reducible apply d5 c9);rfl;rfl;rfl|(with_reducible apply d6);rfl;(first|apply Ld.sc c9;rfl;(first|exact hS.blkC 0 rfl rfl|exact hS.blkC 1 rfl rfl)|apply Ld.sl c9;rfl;(first|exact hS.blkC 1 rfl rfl|exact hS.blkC 3 rfl rfl)|apply Ld.st c9;rfl;exact hS.roR (by assumption) (by assumption);rfl);rfl|(with_reducible apply l3 c9);rfl;rfl;rfl;rfl;omega;rfl|refine yDn (by with_reducible constructor) ?_|((with_reducible apply j8);(iterate 4 rfl);first|rfl|assumption)|(with_reducible apply t6);(iterate 4 rfl);rfl;rfl|(with_reducible apply g6);rfl;(first|rfl|assumption);rfl;rfl|(with_reducible apply i5);rfl;rfl|(with_reducible apply f7 hS c9);rfl;rfl;rfl;clear hS;intro g w' hS|(with_reducible apply d7 hS c9 (i:=0));(iterate 8 rfl);(first|exact (rfl:_=[_,_,_])|exact (rfl:_=[_,_,_,_]));clear hS;intro w' hS;simp only [List.set] at hS|(with_reducible apply q7);rfl;rfl;rfl;all_goals (intro hb hp;try (exfalso;omega))|(with_reducible apply d9);rfl;all_goals (intro hb hp;try (exfalso;omega))|(with_reducible apply f8 hS);rfl;rfl;rfl;refine ⟨_,hfind _ (har.now hS),?_⟩;clear hS;intro w' hS)
    refine a4i 6 14 15 rfl hS (by kernel_rfl) ?_;intro w10 hS';clear hS;have hS:=hS';clear hS';simp only [xi4,xi5];have hH:=hS.sub (xi6 [_,_,_,_,_,_] _)
    ((with_reducible apply l7 (nn 0) c9);rfl;kernel_rfl;exact (fun _ _ _ h=>h);exact xd1 hH;rfl;rfl)
    ((with_reducible apply l7 (nn 1) c9);rfl;kernel_rfl;exact (fun _ _ _ h=>h);exact xd1 hH;rfl;rfl)
    ((with_reducible apply o9 (nn 2));rfl;kernel_rfl;kernel_rfl;rfl;exact (fun _ _ _ h=>h);exact hH;rfl;(intro w2 hw2;(replace hw2:St _ _ w2 _:=hw2;(apply Ld.sc c9;rfl;exact hw2.blkC 1 rfl rfl)));rfl)
    ((with_reducible apply l7 (nn 3) c9);rfl;kernel_rfl;exact (fun _ _ _ h=>h);exact xd1 hH;rfl;rfl)
    ((with_reducible apply l7 (nn 4) c9);rfl;kernel_rfl;exact (fun _ _ _ h=>h);exact xd1 hH;rfl;rfl)
    ((with_reducible apply o9 (nn 5));rfl;kernel_rfl;kernel_rfl;rfl;exact (fun _ _ _ h=>h);exact hH;rfl;(intro w2 hw2;(replace hw2:St _ _ w2 _:=hw2;(apply Ld.sc c9;rfl;exact hw2.blkC 1 rfl rfl)));rfl)
    ((with_reducible apply a3C (nn 6));rfl;kernel_rfl;kernel_rfl;kernel_rfl;rfl;exact (fun _ _ _ h=>h);exact xd1 hH;(intro a ha;exact a6c c9 (j:=j) rfl rfl rfl rfl (by omega) a ha _);rfl)
    ((with_reducible apply o9 (nn 7));rfl;kernel_rfl;kernel_rfl;rfl;exact (fun _ _ _ h=>h);exact hH;rfl;(intro w2 hw2;(replace hw2:St _ _ w2 _:=hw2;apply Ld.sl c9;rfl;exact hw2.rowC0 4 rfl hrowF rfl));rfl)
    ((with_reducible apply o9 (nn 8));rfl;kernel_rfl;kernel_rfl;rfl;exact (fun _ _ _ h=>h);exact hH;rfl;(intro w2 hw2;(replace hw2:St _ _ w2 _:=hw2;(apply Ld.st c9;rfl;exact hw2.blkR 1 rfl;rfl)));rfl)
    ((with_reducible apply o9 (nn 9));rfl;kernel_rfl;kernel_rfl;rfl;exact (fun _ _ _ h=>h);exact hH;rfl;(intro w2 hw2;(replace hw2:St _ _ w2 _:=hw2;(apply Ld.st c9;rfl;exact hw2.blkR 0 rfl;rfl)));rfl)
    ((with_reducible apply a2y (nn 10) c9);rfl;kernel_rfl;kernel_rfl;kernel_rfl;rfl;exact (fun _ _ _ _ h=>h);exact xd1 hH;rfl;rfl;exact (rfl:_=some [_,_,_,_,_,_,_]);rfl)
    refine s8 (i:=11) (by kernel_rfl) ?_;refine q8 rfl (v5 hS c9 rfl rfl rfl rfl rfl rfl) rfl ?_;rintro _ w' ⟨g9,rfl,hS'⟩;clear hS;have hS:=hS';clear hS';have hH:=hS.drop.sub (xi6 [_,_,_,_,_,_] _);refine ⟨xd1 (xd1 hH),?_⟩;refine s8 (i:=12) (by kernel_rfl) ?_;refine q8 rfl (z7 hS c9 (i:=7) rfl rfl rfl rfl (hS.rowRo 0 rfl) rfl (by simp only [xh8];omega)) rfl ?_;rintro _ w' ⟨p',c',rfl,hS'⟩;simp only [List.set] at hS';clear hS;have hS:=hS';clear hS';have hH:=hS.drop.sub (xi6 [_,_,_,_,_,_] _);refine ⟨xd1 (xd1 hH),?_⟩
    ((with_reducible apply a3C (nn 13));rfl;kernel_rfl;kernel_rfl;kernel_rfl;rfl;exact (fun _ _ _ h=>h);exact xd1 hH;(intro a ha;exact a6c c9 (j:=j) rfl rfl rfl rfl (by omega) a ha _);rfl)
    refine s8 (i:=14) (by kernel_rfl) ?_;refine a1S (Φ:=fun _ w'=>St _ _ w' _) rfl (a3t hS c9 (i:=4 + 1) (kk:=j) (j:=0) rfl rfl rfl rfl rfl hrowF (a0N rfl) rfl (xd2 _) rfl) ?_;intro _ w' hS';simp only [List.set,n8] at hS';clear hS;have hS:=hS';clear hS';refine ⟨xd4 rfl,?_⟩;refine a2M (by kernel_rfl) ?_
    repeat' (first|(with_reducible apply d5 c9);rfl;rfl;rfl|(with_reducible apply j0);rfl;rfl;omega;omega;rfl|refine yDn (by with_reducible constructor) ?_)
    refine g0 (i + 1,epg,MF.set j (.slice p' (ny.length + 1) c',ny++[((⟨epg,1,(j:Nat)⟩:En),a)]),MS) (by exact Fr.sub_of rfl) ⟨by show i + 1<=es.length;omega,by show ((i + 1:Nat):Int)<=epg;omega,hpg5,rfl,by rw [htk,xi2,xb9,xo2,hnm];exact hput _,by rw [htk,xi2,xb9,xo2,hnm];exact hskip⟩ ?_ (by show es.length - (i + 1) < es.length - i;omega);rw [List.append_nil];unfold lkS;dsimp only;rw [a8D];rw [xh8] at hS;have hnc:ny.map nmC++[[.int .i64 epg,.int .i64 1,.int .i64 (j:Nat),.int .i64 a.pg,.int .i64 a.n,.int .i64 a.prot,.bool a.z]]=(ny++[((⟨epg,1,(j:Nat)⟩:En),a)]).map nmC:=by rw [xi2];rfl
    rw [hnc] at hS;exact hS.drop.drop.drop.perm ((((((a8R (y:=(.slice p' (ny.length + 1) c',ny++[((⟨epg,1,(j:Nat)⟩:En),a)])) hy).append_right (nlR MS)).cons _).cons _).cons _).cons _)
   ·obtain ⟨j,rfl⟩:=xn2 h0;obtain ⟨y,hy⟩:∃ y,MS[j]?=some y:=i3 (by rw [hGS.1];omega);have hyl:y.2.length<=2000:=by
     obtain ⟨x0,hx0⟩:=i3 (l:=NS) (i:=j) (by omega);obtain ⟨v0,hv0⟩:=hGS.2 j x0 hx0;rw [hy] at hv0
     cases hv0
     have h8:=hSl x0 (xc8 hx0);have h9:=xj7 (fun (n:Nm)=>decide (n.1.kind=2/\n.1.at_=((j:Nat):Int))) ((es.take i).map (a0D ⟨true,A,es⟩));rw [xh8,xa1] at h9;rw [xe5];omega
    replace hS:=hS.perm (((((((a40 hy).append_left (nlR MF)).trans xj6).cons _).cons _).cons _).cons _);have hrowF:(nlC MS)[j]?=some [y.1]:=f6 (f:=fun (x:Value×List Nm)=>[x.1]) hy;have hput:=fun v=>hGS.put (n:=((⟨epg,2,(j:Nat)⟩:En),a)) (v:=v) rfl rfl hy;have hskip:=hGF.skip (n:=((⟨epg,2,(j:Nat)⟩:En),a)) (by show ¬(2:Int)=_;omega);obtain ⟨vy,ny⟩:=y;unfold nsA at hS;dsimp only [List.cons_append] at hS hrowF hyl hput;obtain ⟨py,cy,rfl⟩:=hS.rowSlice 4 rfl;rw [xh8] at hS hrowF;obtain ⟨gF,rfl⟩:=hS.rowSome 3 rfl (by omega)
    repeat' (first|(with_reducible apply d5 c9);rfl;rfl;rfl|(with_reducible apply d6);rfl;(first|apply Ld.sc c9;rfl;(first|exact hS.blkC 0 rfl rfl|exact hS.blkC 1 rfl rfl)|apply Ld.sl c9;rfl;(first|exact hS.blkC 1 rfl rfl|exact hS.blkC 3 rfl rfl)|apply Ld.st c9;rfl;exact hS.roR (by assumption) (by assumption);rfl);rfl|(with_reducible apply l3 c9);rfl;rfl;rfl;rfl;omega;rfl|refine yDn (by with_reducible constructor) ?_|((with_reducible apply j8);(iterate 4 rfl);first|rfl|assumption)|(with_reducible apply i6);rfl;rfl;rfl;rfl|(with_reducible apply g6);rfl;(first|rfl|assumption);rfl;rfl|(with_reducible apply i4);rfl;rfl|(with_reducible apply f7 hS c9);rfl;rfl;rfl;clear hS;intro g w' hS|(with_reducible apply d7 hS c9 (i:=0));(iterate 8 rfl);(first|exact (rfl:_=[_,_,_])|exact (rfl:_=[_,_,_,_]));clear hS;intro w' hS;simp only [List.set] at hS|(with_reducible apply q7);rfl;rfl;rfl;all_goals (intro hb hp;try (exfalso;omega))|(with_reducible apply d9);rfl;all_goals (intro hb hp;try (exfalso;omega))|(with_reducible apply f8 hS);rfl;rfl;rfl;refine ⟨_,hfind _ (har.now hS),?_⟩;clear hS;intro w' hS)
    refine a4i 6 14 15 rfl hS (by kernel_rfl) ?_;intro w10 hS';clear hS;have hS:=hS';clear hS';simp only [xi4,xi5];have hH:=hS.sub (xi6 [_,_,_,_,_,_] _)
    ((with_reducible apply l7 (nn 0) c9);rfl;kernel_rfl;exact (fun _ _ _ h=>h);exact xd1 hH;rfl;rfl)
    ((with_reducible apply l7 (nn 1) c9);rfl;kernel_rfl;exact (fun _ _ _ h=>h);exact xd1 hH;rfl;rfl)
    ((with_reducible apply o9 (nn 2));rfl;kernel_rfl;kernel_rfl;rfl;exact (fun _ _ _ h=>h);exact hH;rfl;(intro w2 hw2;(replace hw2:St _ _ w2 _:=hw2;(apply Ld.sc c9;rfl;exact hw2.blkC 1 rfl rfl)));rfl)
    ((with_reducible apply l7 (nn 3) c9);rfl;kernel_rfl;exact (fun _ _ _ h=>h);exact xd1 hH;rfl;rfl)
    ((with_reducible apply l7 (nn 4) c9);rfl;kernel_rfl;exact (fun _ _ _ h=>h);exact xd1 hH;rfl;rfl)
    ((with_reducible apply o9 (nn 5));rfl;kernel_rfl;kernel_rfl;rfl;exact (fun _ _ _ h=>h);exact hH;rfl;(intro w2 hw2;(replace hw2:St _ _ w2 _:=hw2;(apply Ld.sc c9;rfl;exact hw2.blkC 1 rfl rfl)));rfl)
    ((with_reducible apply a3C (nn 6));rfl;kernel_rfl;kernel_rfl;kernel_rfl;rfl;exact (fun _ _ _ h=>h);exact xd1 hH;(intro a ha;exact a6c c9 (j:=j) rfl rfl rfl rfl (by omega) a ha _);rfl)
    ((with_reducible apply o9 (nn 7));rfl;kernel_rfl;kernel_rfl;rfl;exact (fun _ _ _ h=>h);exact hH;rfl;(intro w2 hw2;(replace hw2:St _ _ w2 _:=hw2;apply Ld.sl c9;rfl;exact hw2.rowC0 5 rfl hrowF rfl));rfl)
    ((with_reducible apply o9 (nn 8));rfl;kernel_rfl;kernel_rfl;rfl;exact (fun _ _ _ h=>h);exact hH;rfl;(intro w2 hw2;(replace hw2:St _ _ w2 _:=hw2;(apply Ld.st c9;rfl;exact hw2.blkR 1 rfl;rfl)));rfl)
    ((with_reducible apply o9 (nn 9));rfl;kernel_rfl;kernel_rfl;rfl;exact (fun _ _ _ h=>h);exact hH;rfl;(intro w2 hw2;(replace hw2:St _ _ w2 _:=hw2;(apply Ld.st c9;rfl;exact hw2.blkR 0 rfl;rfl)));rfl)
    ((with_reducible apply a2y (nn 10) c9);rfl;kernel_rfl;kernel_rfl;kernel_rfl;rfl;exact (fun _ _ _ _ h=>h);exact xd1 hH;rfl;rfl;exact (rfl:_=some [_,_,_,_,_,_,_]);rfl)
    refine s8 (i:=11) (by kernel_rfl) ?_;refine q8 rfl (v5 hS c9 rfl rfl rfl rfl rfl rfl) rfl ?_;rintro _ w' ⟨g9,rfl,hS'⟩;clear hS;have hS:=hS';clear hS';have hH:=hS.drop.sub (xi6 [_,_,_,_,_,_] _);refine ⟨xd1 (xd1 hH),?_⟩;refine s8 (i:=12) (by kernel_rfl) ?_;refine q8 rfl (z7 hS c9 (i:=7) rfl rfl rfl rfl (hS.rowRo 0 rfl) rfl (by simp only [xh8];omega)) rfl ?_;rintro _ w' ⟨p',c',rfl,hS'⟩;simp only [List.set] at hS';clear hS;have hS:=hS';clear hS';have hH:=hS.drop.sub (xi6 [_,_,_,_,_,_] _);refine ⟨xd1 (xd1 hH),?_⟩
    ((with_reducible apply a3C (nn 13));rfl;kernel_rfl;kernel_rfl;kernel_rfl;rfl;exact (fun _ _ _ h=>h);exact xd1 hH;(intro a ha;exact a6c c9 (j:=j) rfl rfl rfl rfl (by omega) a ha _);rfl)
    refine s8 (i:=14) (by kernel_rfl) ?_;refine a1S (Φ:=fun _ w'=>St _ _ w' _) rfl (a3t hS c9 (i:=5 + 1) (kk:=j) (j:=0) rfl rfl rfl rfl rfl hrowF (a0N rfl) rfl (xd2 _) rfl) ?_;intro _ w' hS';simp only [List.set,n8] at hS';clear hS;have hS:=hS';clear hS';refine ⟨xd4 rfl,?_⟩;refine a2M (by kernel_rfl) ?_
    repeat' (first|(with_reducible apply d5 c9);rfl;rfl;rfl|(with_reducible apply j0);rfl;rfl;omega;omega;rfl|refine yDn (by with_reducible constructor) ?_)
    refine g0 (i + 1,epg,MF,MS.set j (.slice p' (ny.length + 1) c',ny++[((⟨epg,2,(j:Nat)⟩:En),a)])) (by exact Fr.sub_of rfl) ⟨by show i + 1<=es.length;omega,by show ((i + 1:Nat):Int)<=epg;omega,hpg5,rfl,by rw [htk,xi2,xb9,xo2,hnm];exact hskip,by rw [htk,xi2,xb9,xo2,hnm];exact hput _⟩ ?_ (by show es.length - (i + 1) < es.length - i;omega);rw [List.append_nil];unfold lkS;dsimp only;rw [a8D];rw [xh8] at hS;have hnc:ny.map nmC++[[.int .i64 epg,.int .i64 2,.int .i64 (j:Nat),.int .i64 a.pg,.int .i64 a.n,.int .i64 a.prot,.bool a.z]]=(ny++[((⟨epg,2,(j:Nat)⟩:En),a)]).map nmC:=by rw [xi2];rfl
    rw [hnc] at hS;exact hS.drop.drop.drop.perm (((((List.perm_middle.symm.trans ((a8R (y:=(.slice p' (ny.length + 1) c',ny++[((⟨epg,2,(j:Nat)⟩:En),a)])) hy).append_left (nlR MF))).cons _).cons _).cons _).cons _)
theorem Bs.nowM {F:Nat->Prop} {w0 w:World} {Θ Γ:List Asr} {p:Addr} {v:Value} (hb:Bs F w0 p v) (h:St F w0 w (Θ++Γ)):Bs (fps Θ) w p v:=⟨h.bs hb,fun ⟨A,hA,e⟩=>by
 rcases h.own A (xe1 _ hA) _ e with h1|h1
 ·have:=World.block_lt_of_cell? w0 p hb.cell;omega
 ·exact hb.nf h1⟩
structure SpF (F:Nat->Prop) (w:World) (p:Sp):Prop where
 ar:Sl F w 4 p.va (p.s.areas.map arC)
 en:Sl F w 3 p.ve (p.s.entries.map enC)
theorem SpF.nowM {F:Nat->Prop} {w w':World} {Θ Γ:List Asr} {p:Sp} (h:SpF F w p) (hS:St F w w' (Θ++Γ)):SpF (fps Θ) w' p:=⟨h.ar.nowM hS,h.en.nowM hS⟩
def a0r (l:List Sc):List Nm:=l.flatMap fun s=>s.entries.map (a0D s)
theorem a04 (l:List Sc) (kind:Int) (i:Nat):(a0r l).filter (fun (n:Nm)=>decide (n.1.kind=kind/\n.1.at_=((i:Nat):Int)))=i7 l kind i:=by
 induction l with
 |nil=>rfl
 |cons s l ih=>
  have h1:=a7N s kind i;unfold a0r i7 at *;rw [xh4,xh4,xl1,ih,h1,xh4,xh5,List.append_nil]
theorem a6S {A:List Ar} {nf ns:Int} (hc:j3 A=0):∀ {es:List En} {last:Int},a0u A nf ns last es=true->last<=255->last + (es.length:Int)<=255
 |[],last,_,h=>by simpa using h
 |e::es,last,h,_=>by
  replace h:(a0R A nf ns last e && a0u A nf ns e.page es)=true:=h;rw [xb1] at h;have h1:=h.1;unfold a0R at h1;rw [xb1,xb2] at h1;obtain ⟨hs,hl,-⟩:=h1;obtain ⟨a,ha⟩:=xm6.1 hs;have h2:=xn4 ha;have h3:=(a3a hc ha).1;unfold w9 at h2;rw [xb2] at h2;unfold Ar.ok at h3;unfold Ar.fin at h2;have:=a6S hc h.2 (by omega);rw [xb0];omega
theorem a0H {l:List Sh} {nf ns:Int} {s:Sc} (h:n7 l nf ns s=true):s.entries.length<=255/\0<=r9 s.areas/\r9 s.areas<=70000:=by
 unfold n7 at h;by_cases hl:s.live=true
 ·rw [xe6 hl,xb1,xb1,xb2] at h;obtain ⟨hAl,hgood⟩:=o8.1 h.1;have h1:=a6S h.1 h.2.2 (by omega);have hsum:=a4d (y7 hgood) s.areas.length;rw [xg0] at hsum;omega
 ·rw [xe7 hl,xb2] at h;rw [h.1,h.2];simp [r9]
theorem a2S (l:List Sc) (s:Sc):o6 (l++[s])=o6 l + r9 s.areas:=by unfold o6;simp
theorem a48 (l:List Sc) (s:Sc):a0r (l++[s])=a0r l++s.entries.map (a0D s):=by unfold a0r;simp
theorem a3v {l:List Sh} {nf ns:Int}:∀ {L:List Sc},L.all (n7 l nf ns)=true->(a0r L).length<=255 * L.length/\0<=o6 L/\o6 L<=70000 * (L.length:Int)
 |[],_=>by simp [a0r,o6]
 |s::L,h=>by
  rw [xl6,xb1] at h;have h1:=a0H h.1;have h2:=a3v h.2;have e1:a0r (s::L)=s.entries.map (a0D s)++a0r L:=by unfold a0r;simp
  have e2:o6 (s::L)=r9 s.areas + o6 L:=by unfold o6;simp
  rw [e1,e2,xe5,xh8,xb0];omega
theorem b2k {F:Nat->Prop} {w0 w:World} {Γ:List Asr} {gl gk gc:Nat} {vsh vF vS:Value} {room:Int} {l:List (Sh×Value)} {NF NS:NL} {p:Sp}
  (hS0:St F w0 w (lkS gl (.pointer (some ⟨gk,0,none⟩)) vF vS room NF NS++Γ)) (hc:Bs (fps (lkS gl (.pointer (some ⟨gk,0,none⟩)) vF vS room NF NS)) w ⟨gc,0,none⟩ (.pointer (some ⟨gl,0,none⟩))) (hk:Bs (fps (lkS gl (.pointer (some ⟨gk,0,none⟩)) vF vS room NF NS)) w ⟨gk,0,none⟩ vsh) (hL:ShsF (fps (lkS gl (.pointer (some ⟨gk,0,none⟩)) vF vS room NF NS)) w l vsh) (hr:y5 0 (shs l)=true)
  (hp:SpF (fps (lkS gl (.pointer (some ⟨gk,0,none⟩)) vF vS room NF NS)) w p) (hrm:0<=room/\room<=1000000) (hF:∀ x ∈ NF,x.2.length<=1000) (hSl:∀ x ∈ NS,x.2.length<=1000) :
  Fn Tryz.prog 126 [.agg (spC p).toArray,.pointer (some ⟨gc,0,none⟩)] w (fun v w'=>v=.bool (!n7 (shs l) NF.length NS.length p.s)/\∃ NF' NS' room',St (fps (lkS gl (.pointer (some ⟨gk,0,none⟩)) vF vS room NF NS)) w w' (lkS gl (.pointer (some ⟨gk,0,none⟩)) vF vS room' NF' NS')/\(n7 (shs l) NF.length NS.length p.s=true->room'=room + r9 p.s.areas/\Grown NF NF' 1 (p.s.entries.map (a0D p.s))/\Grown NS NS' 2 (p.s.entries.map (a0D p.s)))):=by
 have hS:=St.startM hS0;obtain ⟨pa,ca,hva⟩:=(hp.ar.now hS).form;obtain ⟨pe,ce,hve⟩:=(hp.en.now hS).form;obtain ⟨s,va,ve⟩:=p;dsimp only at hva hve;subst hva hve;have hcall:∀ w1 Γ1,St (fps (lkS gl (.pointer (some ⟨gk,0,none⟩)) vF vS room NF NS)) w w1 (lkS gl (.pointer (some ⟨gk,0,none⟩)) vF vS room NF NS++Γ1)->_:=fun w1 Γ1 h=>a99 h (hk.nowM h) (hL.nowM h) hr (hp.ar.nowM h) (hp.en.nowM h) hrm hF hSl;generalize hG:fps (lkS gl (.pointer (some ⟨gk,0,none⟩)) vF vS room NF NS)=G at hS hk hL hp hcall hc |-;unfold spC at hcall |-;dsimp only at hcall |-;refine yEn Tryz.func126 Tryz.ntmps126 (by kernel_rfl) (by kernel_rfl) rfl rfl ?_
 repeat' (first|(with_reducible apply d5 c9);rfl;rfl;rfl|(with_reducible apply d6);rfl;(first|apply Ld.sc c9;rfl;exact hS.bs (by assumption)|apply Ld.st c9;rfl;exact hS.blkR 0 rfl;rfl);rfl|refine yDn (by with_reducible constructor) ?_|(with_reducible apply j6 hS);rfl;rfl;rfl;clear hS;intro g w' hS)
 have hS2:=hS.perm (xi3 _ _).symm
 repeat' (first|(with_reducible apply d5 c9);rfl;rfl;rfl|refine yDn (by with_reducible constructor) ?_|(with_reducible apply a0g);rfl;rfl;rfl;refine ⟨_,hcall _ _ hS2,?_⟩;rintro _ w2 ⟨rfl,NF',NS',room',h2,hg⟩)
 (refine j5 rfl ?_)
 rw [<- hG] at h2;exact ⟨rfl,NF',NS',room',(St.transM hS2 h2).sub (xi6 _ _),hg⟩
theorem b0o {F:Nat->Prop} {w0 w:World} {Γ:List Asr} {gl gk gc:Nat} {vsh vF vS vsp:Value} {l:List (Sh×Value)} {NF NS:NL} {sp:List Sp}
  (hS0:St F w0 w (lkS gl (.pointer (some ⟨gk,0,none⟩)) vF vS 0 NF NS++Γ)) (hc:Bs (fps (lkS gl (.pointer (some ⟨gk,0,none⟩)) vF vS 0 NF NS)) w ⟨gc,0,none⟩ (.pointer (some ⟨gl,0,none⟩))) (hk:Bs (fps (lkS gl (.pointer (some ⟨gk,0,none⟩)) vF vS 0 NF NS)) w ⟨gk,0,none⟩ vsh) (hL:ShsF (fps (lkS gl (.pointer (some ⟨gk,0,none⟩)) vF vS 0 NF NS)) w l vsh) (hr:y5 0 (shs l)=true)
  (hsl:Sl (fps (lkS gl (.pointer (some ⟨gk,0,none⟩)) vF vS 0 NF NS)) w 3 vsp (sp.map spC)) (hp:∀ p ∈ sp,SpF (fps (lkS gl (.pointer (some ⟨gk,0,none⟩)) vF vS 0 NF NS)) w p) (h4:sp.length<=4) (hF:∀ x ∈ NF,x.2=[]) (hSl:∀ x ∈ NS,x.2=[]) :
  Fn Tryz.prog 173 [vsp,.func (.func 126) #[] #[.pointer (some ⟨gc,0,none⟩)]] w (fun v w'=>(∃ i:Int,v=.int .i64 i/\decide (0<=i)=!(sp.map (·.s)).all (n7 (shs l) NF.length NS.length))/\∃ NF' NS' room',St (fps (lkS gl (.pointer (some ⟨gk,0,none⟩)) vF vS 0 NF NS)) w w' (lkS gl (.pointer (some ⟨gk,0,none⟩)) vF vS room' NF' NS')/\((sp.map (·.s)).all (n7 (shs l) NF.length NS.length)=true->room'=o6 (sp.map (·.s))/\Grown NF NF' 1 (a0r (sp.map (·.s)))/\Grown NS NS' 2 (a0r (sp.map (·.s))))):=by
 have hS:=St.startM hS0;have bnd:=(hsl.now hS).bound;obtain ⟨pp,c,hpp⟩:=(hsl.now hS).form;rw [xh8] at hpp;subst hpp;generalize hG:fps (lkS gl (.pointer (some ⟨gk,0,none⟩)) vF vS 0 NF NS)=G at hS hk hL hp hc hsl |-;clear hS0;refine yEn Tryz.func173 Tryz.ntmps173 (by kernel_rfl) (by kernel_rfl) rfl rfl ?_
 repeat' (first|(with_reducible apply d5 c9);rfl;rfl;rfl|refine yDn (by with_reducible constructor) ?_)
 refine k9 (Γ:=[]) (X:=Nat×NL×NL×Int) (fun x=>[(8,.int .i64 (x.1:Nat))]) [0,1,7] rfl (fun x=>lkS gl (.pointer (some ⟨gk,0,none⟩)) vF vS x.2.2.2 x.2.1 x.2.2.1) (fun x=>x.1<=sp.length/\((sp.map (·.s)).take x.1).all (n7 (shs l) NF.length NS.length)=true/\x.2.2.2=o6 ((sp.map (·.s)).take x.1)/\Grown NF x.2.1 1 (a0r ((sp.map (·.s)).take x.1))/\Grown NS x.2.2.1 2 (a0r ((sp.map (·.s)).take x.1))) (fun x=>sp.length - x.1) (0,NF,NS,0) (by exact Fr.sub_of rfl) ⟨xf8 _,rfl,rfl,Grown.refl _ _,Grown.refl _ _⟩ (by simpa only [List.append_nil] using hS) ?_;clear hS;rintro ⟨i,MF,MS,room⟩ w1 ⟨hi,hall,hroom,hGF,hGS⟩ hS;dsimp only at hi hall hroom hGF hGS hS |-;by_cases hlt:i < sp.length;rotate_left
 ·obtain rfl:i=sp.length:=by omega
  rw [xa0 (by rw [xh8];omega)] at hall hroom hGF hGS;rw [List.append_nil] at hS;rw [hall]
  repeat' (first|(with_reducible apply d5 c9);rfl;rfl;rfl|refine yDn (by with_reducible constructor) ?_|(with_reducible apply d9);rfl;all_goals (intro hb hp;try (exfalso;omega)))
  (refine j5 rfl ?_)
  exact ⟨⟨-1,rfl,rfl⟩,MF,MS,room,hS,fun _=>⟨hroom,hGF,hGS⟩⟩
 obtain ⟨x,hx⟩:=i3 (l:=sp) (i:=i) (by omega);have hxs:(sp.map (·.s))[i]?=some x.s:=f6 (f:=fun p:Sp=>p.s) hx;have hrow:=f6 (f:=spC) hx;obtain ⟨b,off,rfl,hro⟩:=hsl.atF (i:=i) hlt;have hxp:=hp x (xc8 hx);have hbd:=a3v hall;have htl:((sp.map (·.s)).take i).length<=i:=by rw [xa1];omega
 have hlen:∀ {N M:NL} {kd:Int},(∀ x ∈ N,x.2=[])->Grown N M kd (a0r ((sp.map (·.s)).take i))->∀ x ∈ M,x.2.length<=1000:=fun {N M kd} hN hg y hy=>by
  obtain ⟨j,hj⟩:=xd6.1 hy;obtain ⟨z,hz⟩:=i3 (l:=N) (i:=j) (by have:=d8 hj;rw [hg.1] at this;omega);obtain ⟨v,hv⟩:=hg.2 j z hz;rw [hj] at hv
  cases hv
  show (z.2++_).length<=1000;rw [hN z (xc8 hz),List.nil_append];exact xd3 (xj7 _ _) (by omega)
 have hcall:=b2k hS (hc.nowM hS) (hk.nowM hS) (hL.nowM hS) hr (hxp.nowM hS) (by omega) (hlen hF hGF) (hlen hSl hGS);rw [hGF.1,hGS.1] at hcall;obtain ⟨pa,ca,hva⟩:=(hxp.ar.now hS).form;obtain ⟨pe,ce,hve⟩:=(hxp.en.now hS).form;obtain ⟨s,va,ve⟩:=x;dsimp only at hva hve hxs hcall;subst hva hve;unfold spC at hrow hcall;dsimp only at hrow hcall;have htk:=n5 hxs
 repeat' (first|(with_reducible apply d5 c9);rfl;rfl;rfl|(with_reducible apply d6);rfl;(apply Ld.st c9;rfl;exact hS.roR (by assumption) (by assumption);rfl);rfl|(with_reducible apply l3 c9);rfl;rfl;rfl;rfl;omega;rfl|(with_reducible apply j0);rfl;rfl;omega;omega;rfl|refine yDn (by with_reducible constructor) ?_|(with_reducible apply d9);rfl;all_goals (intro hb hp;try (exfalso;omega))|(with_reducible apply b4I);rfl;all_goals (intro hb hp;try (exfalso;omega))|(with_reducible apply a0g);rfl;rfl;rfl;refine ⟨_,hcall,?_⟩;rintro _ w2 ⟨rfl,NF',NS',room',h2,hg⟩)
 ·have hbs:n7 (shs l) NF.length NS.length s=false:=by simpa using hb
  have hno:(sp.map (·.s)).all (n7 (shs l) NF.length NS.length)=false:=by
   rw [xo6];exact ⟨s,xc8 hxs,by rw [hbs];simp⟩
  (refine j5 rfl ?_)
  exact ⟨⟨((i:Nat):Int),rfl,by rw [hno,xj1 (by omega)];rfl⟩,NF',NS',room',(St.transM hS h2).sub (xi6 _ _),fun h=>by rw [hno] at h;cases h⟩
 ·have hbs:n7 (shs l) NF.length NS.length s=true:=by simpa using hb
  obtain ⟨g1,g2,g3⟩:=hg hbs;refine g0 (i + 1,NF',NS',room') (by exact Fr.sub_of rfl) ⟨by show i + 1<=sp.length;omega,?_,?_,?_,?_⟩ (St.transM hS h2) (by show sp.length - (i + 1) < sp.length - i;omega)
  ·rw [htk,List.all_append,hall,xl6,hbs];rfl
  ·rw [htk,a2S,<- hroom];exact g1
  ·rw [htk,a48];exact hGF.trans g2
  ·rw [htk,a48];exact hGS.trans g3
section
variable {P:Program} {n:Nat} {ds:List Deferred} {E:Fr} {w:World} {Q:Exit->Act->World->Prop} {ops:Array Oper} {S:World->Prop} {fuel:Nat} {li:Array Bool} {d:Nat} {op:Op} {ty:TypeId} {pos:String} {after:Array Edge} {F:Nat->Prop} {w0:World} {Γ:List Asr} {T:Tab}
theorem a6p (k:Nat) {id:Nat} {l:List Oper} (m:Nat) (hl:l.length=m) (hS:St F w0 w Γ) (hm:P.follows .mixedOrders=true) (h:∀ w1,St F w0 w1 Γ->WA P l.toArray Q (fun w'=>St F w0 w' (Γ.take k)) m (Array.replicate m false) n ds E w1):WC P (.region id l.toArray true) Q n ds E w:=a7Q _ m hl hS hm h
theorem a0a {i:Nat} (_C:Nn i) {j dj:Nat} {want b:Bool} {oj:Oper} {v:Value} (hi:ops[i]?=some ⟨some d,op,ty,pos,after,some (j,want)⟩) (hs:Region.noSelect ops=true) (hf:Region.free .any ops li i=true) (hr:(Region.ready .any ops li).contains i=true)
  (hQ:∀ c (a:Act) w,Q (.panic c) (a.put (some d) v) w->Q (.panic c) a w) (hS:S w) (hj:ops[j]?=some oj) (hdj:oj.dst=some dj) (hlt:Nat.blt dj n=true) (hb:E.get dj=some (.bool b)) (he:b=want) (h:∀ a,Has n ds a E->a0n P ⟨some d,op,ty,pos,after,none⟩ a v) (hd:Nat.blt d n=true) (k:WA P ops Q S fuel (li.setIfInBounds i true) n ds ((d,v)::E) w):WA P ops Q S (fuel + 1) li n ds E w:=fun a ha=>by
 have hw:=a0s (o:=⟨some d,op,ty,pos,after,some (j,want)⟩) rfl hj hdj hb ha hlt;exact wpAnyH_take hi hs hf hr hQ (xd4 ⟨by rw [hw,he];cases want <;> rfl,fun w _=>h a ha w⟩) hS (k _ (ha.put d v hd))
theorem a1H {i:Nat} (_C:Nn i) {j dj:Nat} {want b:Bool} {oj:Oper} {t:TypeId} {x:Operand} {p:Addr} {v:Value} (hi:ops[i]?=some ⟨some d,.load t x,ty,pos,after,some (j,want)⟩) (hs:Region.noSelect ops=true) (hf:Region.free .any ops li i=true) (hr:(Region.ready .any ops li).contains i=true)
  (hQ:∀ c (a:Act) w,Q (.panic c) (a.put (some d) v) w->Q (.panic c) a w) (hS:S w) (hj:ops[j]?=some oj) (hdj:oj.dst=some dj) (hlt:Nat.blt dj n=true) (hb:E.get dj=some (.bool b)) (he:b=want) (hx:E.ev x=some (.pointer (some p))) (hl:∀ w,S w->Ld P t p v w) (hd:Nat.blt d n=true) (k:WA P ops Q S fuel (li.setIfInBounds i true) n ds ((d,v)::E) w):WA P ops Q S (fuel + 1) li n ds E w:=fun a ha=>by
 have hw:=a0s (o:=⟨some d,.load t x,ty,pos,after,some (j,want)⟩) rfl hj hdj hb ha hlt;refine wpAnyH_take hi hs hf hr hQ (xd4 ⟨by rw [hw,he];cases want <;> rfl,fun w hw=>?_⟩) hS (k _ (ha.put d v hd));have h:=hl w hw;unfold Ld at h;simp only [execOp,ha.ev hx,Instr.loadAt,Instr.sureAddr,Sem.run_bind,Sem.run_pure,Result.andThen_ok,h]
theorem a1j {i:Nat} (_C:Nn i) {j dj:Nat} {want b:Bool} {oj:Oper} (hi:ops[i]?=some ⟨some d,op,ty,pos,after,some (j,want)⟩) (hs:Region.noSelect ops=true) (hf:Region.free .any ops li i=true) (hr:(Region.ready .any ops li).contains i=true)
  (hQ:∀ c (a:Act) w,Q (.panic c) (a.put (some d) undef) w->Q (.panic c) a w) (hS:S w) (hj:ops[j]?=some oj) (hdj:oj.dst=some dj) (hlt:Nat.blt dj n=true) (hb:E.get dj=some (.bool b)) (he:b=!want) (hd:Nat.blt d n=true) (k:WA P ops Q S fuel (li.setIfInBounds i true) n ds ((d,undef)::E) w):WA P ops Q S (fuel + 1) li n ds E w:=fun a ha=>by
 have hw:=a0s (o:=⟨some d,op,ty,pos,after,some (j,want)⟩) rfl hj hdj hb ha hlt;exact wpAnyH_take hi hs hf hr hQ (xd1 ⟨by rw [hw,he];cases want <;> rfl,rfl⟩) hS (k _ (ha.put d undef hd))
theorem a80 {i j dj:Nat} {want b:Bool} {oj:Oper} {Φ:Value->World->Prop} (hi:ops[i]?=some ⟨some d,op,ty,pos,after,some (j,want)⟩) (hj:ops[j]?=some oj) (hdj:oj.dst=some dj) (hlt:Nat.blt dj n=true) (hb:E.get dj=some (.bool b)) (he:b=want)
  (h:Gets P ⟨some d,op,ty,pos,after,none⟩ n ds E w Φ) (hd:Nat.blt d n=true) (k:∀ v w',Φ v w'->S w'/\WA P ops Q S fuel (li.setIfInBounds i true) n ds ((d,v)::E) w'):WO P ops Q S fuel li n ds E w i:=fun a ha=>by
 have hw:=a0s (o:=⟨some d,op,ty,pos,after,some (j,want)⟩) rfl hj hdj hb ha hlt;unfold wpOp;simp only [hi];rw [xe6 (by rw [hw,he];cases want <;> rfl)];exact xd4 (h a ha (fun a' w'=>S w'/\wpAnyH P .any ops Q S fuel (li.setIfInBounds i true) a' w') Q fun v w' hv=>⟨(k v w' hv).1,(k v w' hv).2 _ (ha.put d v hd)⟩)
theorem b2F {c x y:Operand} {b:Bool} {v:Value} (hc:E.ev c=some (.bool b)) (hb:b=true) (hv:E.ev x=some v):∀ a,Has n ds a E->a0n P ⟨some d,.pick c x y,ty,pos,after,none⟩ a v:=fun a ha w=>by simp [execOp,ha.ev hc,asBool,hb,ha.ev hv]
theorem a21 {c x y:Operand} {b:Bool} {v:Value} (hc:E.ev c=some (.bool b)) (hb:b=false) (hv:E.ev y=some v):∀ a,Has n ds a E->a0n P ⟨some d,.pick c x y,ty,pos,after,none⟩ a v:=fun a ha w=>by simp [execOp,ha.ev hc,asBool,hb,ha.ev hv]
theorem b2d {i j l:Nat} (hr:Region.ready .any ops li=[i,j,l]) (h1:WO P ops Q S fuel li n ds E w i) (h2:WO P ops Q S fuel li n ds E w j) (h3:WO P ops Q S fuel li n ds E w l):WA P ops Q S (fuel + 1) li n ds E w:=fun a ha=>
 wpAnyH_all hr (by simp) (fun k hk=>by
  have:k=i\/k=j\/k=l:=by simpa using hk
  rcases this with rfl|rfl|rfl
  ·exact h1 a ha
  ·exact h2 a ha
  ·exact h3 a ha)
theorem b1s {X:Type} (vf:X->Fr) (Γf:X->List Asr) (p:X->Prop) {x y:Code} {Q1 Q2:Exit->Act->World->Prop} (hx:WC P x (Exit.then (fun a' w'=>∃ m,Has n ds a' (vf m)/\(p m/\St F w0 w' (Γf m))) Q2) n ds E w) (hz:∀ m w',p m->St F w0 w' (Γf m)->WC P y Q1 n ds (vf m) w'):WC P x (Exit.then (y.wp P Q1) Q2) n ds E w:=fun a ha=>
 Code.wp_mono (fun e a' w' q=>by
  cases e with
  |normal=>obtain ⟨m,h1,h2,h3⟩:=q;exact hz m w' h2 h3 a' h1
  |exit i=>exact q
  |goto l=>exact q
  |ret=>exact q
  |panic c=>exact q
  |outgrown=>exact q) (hx a ha)
theorem a1b {X:Type} {vf:X->Fr} {Γf:X->List Asr} {p:X->Prop} {Q2:Exit->Act->World->Prop} (m:X) (h0:Fr.sub (vf m) E) (hp:p m) (hS:St F w0 w (Γf m)):WQ (Exit.then (fun a' w'=>∃ m,Has n ds a' (vf m)/\(p m/\St F w0 w' (Γf m))) Q2) .normal n ds E w:=fun _ ha=>⟨m,ha.sub h0,hp,hS⟩
theorem b4s {fn:Func} {Φ:Value->World->Prop} {v1 v2 v3 v4:Value} (hr:ResL P E w fn.results.toList [v1,v2,v3,v4]) (hΦ:Φ (.tuple #[v1,v2,v3,v4]) w):WQ (bodyPost P fn (fun e w'=>∃ v,e=.returned v/\Φ v w')) .ret n [] E w:=a60 rfl hr rfl hΦ
theorem St.slMem {e sz:Nat} {v:Value} {rows:List (List Value)} (hS:St F w0 w Γ) (h:Asr.row e sz v rows ∈ Γ):Sl nF w sz v rows:=by
 obtain ⟨j,hj⟩:=xd6.1 h;exact hS.rowSl j hj
end
end Go.Proofs.YtejnpppejalhfacGreat
