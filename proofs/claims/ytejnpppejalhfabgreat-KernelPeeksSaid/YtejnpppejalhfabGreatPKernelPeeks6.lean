/- Texts that the proof stands on, one behind the other: Lk6, PlLnk5, PlFix, PlLay, PlLink, Lk8, Lk7. -/
import Derived.Test.YtejnpppejalhfabGreatPKernelPeeks5
namespace Go.Proofs.YtejnpppejalhfabGreat
set_option maxRecDepth 100000
set_option maxHeartbeats 8000000
open Go.RowKit Go.Sort
theorem a2g:(Tryz.prog).underlying 104=some (.map 9 27):=by kernel_rfl
theorem b3G:((Tryz.prog).info? 27).bind (·.zero)=some (.agg [.string ⟨[].toArray⟩,.slice none 0 0,.slice none 0 0,.slice none 0 0,.slice none 0 0,.int .i64 0].toArray):=by kernel_rfl
theorem b0c (s:List Ob×Int) (o:Ob):s.1.length<=(v6 s o).1.length:=by
 unfold v6 a7s
 split
 ·exact xd4 _
 ·simp
abbrev LkM (gw rb rp:Nat) (p:Option Addr) (c:Nat) (es:Array MapEntry) (cc:Nat) (s:List Ob×Int):List Asr:=LkS gw rb rp p c s.2 es cc s.1
def b7q (r:Option (List Ob×Int)):Int:=match r with
 |none=>6
 |some s=>if s.2 > 256 then 3 else 0
theorem b7t {F:Nat->Prop} {w0 w:World} {Γ:List Asr} {gw rb rp c cc cb:Nat} {p:Option Addr} {es esb:Array MapEntry} {B:List Ob} {M:Ob} (hS0:St F w0 w ((LkM gw rb rp p c es cc ([],1)++[.obj rb (.map esb cb)])++Γ)) (hP:PlI es []) (hB:MapG .string esb (B.map fun o=>(stK o.im.name,a7k o))) (hF:∀ o ∈ B,ImF (fps (LkM gw rb rp p c es cc ([],1)++[.obj rb (.map esb cb)])) w o) (hok:∀ o ∈ B,b0K o.im) (hM:M ∈ B) (hl:B.length<=7) :
  Fn Tryz.prog 39 [.pointer (some ⟨gw,0,none⟩),a7k M] w (fun v w'=>v=.int .i64 (b7q (a3C B 8 0 (v6 ([],1) M)))/\∃ p' c' es' cc' s,PlI es' s.1/\AllI B s/\(∀ s',a3C B 8 0 (v6 ([],1) M)=some s'->s=s')/\St (fps (LkM gw rb rp p c es cc ([],1)++[.obj rb (.map esb cb)])) w w' (LkM gw rb rp p' c' es' cc' s++[.obj rb (.map esb cb)])):=by
 have hMF:=hF M hM
 have hMo:=hok M hM
 have hA0:AllI B ([],1):=⟨by simp,by simp,by simp,by simp⟩
 have hA1:=hA0.step hM hMo
 generalize hR:a3C B 8 0 (v6 ([],1) M)=R
 have hMv:=hMF.now (St.startM hS0)
 have hMs:=hMF.segs.nowM (Θ:=LkM gw rb rp p c es cc ([],1)) (St.startM hS0)
 refine yEn Tryz.func39 Tryz.ntmps39 (by kernel_rfl) (by kernel_rfl) rfl rfl ?_
 have hS:=St.startM hS0
 generalize hG:fps (LkM gw rb rp p c es cc ([],1)++[.obj rb (.map esb cb)])=G at hS hF |-
 obtain ⟨I,vn,vs,vy,vr,a0⟩:=M
 replace hMv:ImV w I vn vs vy vr:=hMv
 replace hMo:b0K I:=hMo
 replace hMs:Sl (fps (LkM gw rb rp p c es cc ([],1))) w 5 vs (I.segs.map sgC):=hMs
 obtain ⟨pn,cn,rfl⟩:=hMv.needs.len
 obtain ⟨ps,cs,rfl⟩:=hMv.segs.len
 obtain ⟨py,cy,rfl⟩:=hMv.syms.len
 obtain ⟨pr,cr,rfl⟩:=hMv.rels.len
 simp only [LkM,LkS,List.cons_append,List.nil_append] at hS
 unfold a7k imC
 repeat' (first|((with_reducible apply b9 b8);rfl;rfl;rfl)|((with_reducible apply c9);rfl;(((with_reducible apply Loads.st b8);rfl;((exact hS.blkR 0 rfl));rfl));rfl)|refine yDn (by with_reducible constructor) ?_|((with_reducible apply k7 hS);rfl;rfl;rfl;clear hS;intro g w' hS))
 replace hS:=St.reorder [1,2,3,4] hS (by decide) rfl
 have hMs1:=(hF _ hM).segs.nowM (Θ:=LkM gw rb rp p c es cc ([],1)) hS
 have hMv1:=(hF _ hM).now hS
 ((with_reducible apply x8);rfl;rfl;exact a9F (p:=p) (c:=c) (es:=es) (cc:=cc) (os:=[]) (next:=1) hS hP hMv1 hMs1 hMo.s1 hMo.s2 hMo.s3 (by omega) (by omega) (by simp);rfl;rintro _ w' ⟨rfl,p1,c1,es1,cc1,hP1,hS'⟩)
 replace hS:=St.transM (Θ:=LkM gw rb rp p c es cc ([],1)) hS hS'
 clear hS' hMs1 hMv1 hMs hMv
 repeat' (first|((with_reducible apply b9 b8);rfl;rfl;rfl)|refine yDn (by with_reducible constructor) ?_)
 replace hS:St G w w' (LkM gw rb rp p1 c1 es1 cc1 (v6 ([],1) _)++[.obj rb (.map esb cb)]):=hS
 replace hP1:PlI es1 (v6 ([],1) _).1:=hP1
 generalize v6 ([],1) _=s1 at hS hP1 hA1 hR
 clear hMF hMo hM hP
 refine k9 (X:=Nat×(List Ob×Int)×(Option Addr×Nat)×(Array MapEntry×Nat)) (fun x=>[(5,.int .i64 (x.1:Nat))]) [0] rfl (fun x=>LkM gw rb rp x.2.2.1.1 x.2.2.1.2 x.2.2.2.1 x.2.2.2.2 x.2.1) (fun x=>PlI x.2.2.2.1 x.2.1.1/\AllI B x.2.1/\R=a3C B (8 - x.1) x.1 x.2.1/\x.1<=x.2.1.1.length) (fun x=>8 - x.1) (0,s1,(p1,c1),(es1,cc1)) (by exact Fr.sub_of rfl) ⟨hP1,hA1,hR.symm,xi5 _⟩ hS ?_
 clear hS hP1 hA1 hR
 rintro ⟨n,s,⟨p2,c2⟩,⟨es2,cc2⟩⟩ w2 ⟨hP2,hA2,hR2,hn⟩ hS
 dsimp only [LkM,LkS,List.cons_append,List.nil_append] at hP2 hA2 hR2 hn hS |-
 have hlen:=hA2.len
 have hnx:=hA2.hi
 have hnl:=hA2.lo
 by_cases hlt:n < s.1.length
 rotate_left
 ·have hd:s.1[n]?=none:=xm2 (by omega)
  have hR3:R=some s:=by
   rw [hR2]
   cases 8 - n with
   |zero=>rfl
   |succ k=>unfold a3C;rw [hd]
  repeat' (first|((with_reducible apply b9 b8);rfl;rfl;rfl)|((with_reducible apply c9);rfl;(first|((with_reducible apply Loads.sc b8);rfl;((exact hS.blkC 0 rfl rfl)))|((with_reducible apply Loads.sl b8);rfl;((exact hS.blkC 0 rfl rfl))));rfl)|refine yDn (by with_reducible constructor) ?_|((with_reducible apply d8);rfl;all_goals (intro hb hp;try (exfalso;omega))))
  ·(refine j4 rfl ?_)
   refine ⟨?_,p2,c2,es2,cc2,s,hP2,hA2,fun s' hs'=>?_,hS⟩
   ·rw [hR3]
    show _=Value.int .i64 (if s.2 > 256 then 3 else 0)
    rw [xf0 (by omega)]
   ·rw [hR3] at hs';exact Option.some.inj hs'
  ·(refine j4 rfl ?_)
   refine ⟨?_,p2,c2,es2,cc2,s,hP2,hA2,fun s' hs'=>?_,hS⟩
   ·rw [hR3]
    show _=Value.int .i64 (if s.2 > 256 then 3 else 0)
    rw [xf1 (by omega)]
   ·rw [hR3] at hs';exact Option.some.inj hs'
 obtain ⟨o,ho⟩:=i9 (l:=s.1) (i:=n) (by omega)
 obtain ⟨a1,hob⟩:=hA2.sub o (xd0 ho)
 have hoF:=hF _ hob
 have hrow:=d9 (f:=obC) ho
 have hR3:R=match a1B B o.im.needs s with
   |none=>none
   |some s'=>a3C B (8 - (n + 1)) (n + 1) s':=by
  rw [hR2,show 8 - n=(8 - (n + 1)) + 1 by omega]
  show (match s.1[n]? with
   |none=>some s
   |some o=>match a1B B o.im.needs s with
    |none=>none
    |some s'=>a3C B (8 - (n + 1)) (n + 1) s')=_
  rw [ho]
 clear hR2
 obtain ⟨J,un,us,uy,ur,at_⟩:=o
 have hnd:Sl G w 1 un (J.needs.map stC):=hoF.needs
 obtain ⟨qn,dn,rfl⟩:=(hnd.now hS).len
 have hbn:=(hnd.now hS).bound
 unfold obC at hrow
 rcases hS.rowForm 2 rfl with ⟨h1,h2⟩|⟨b,cap,h1,h2,h3⟩
 ·exfalso
  simp only [Value.slice.injEq] at h1
  omega
 simp only [Value.slice.injEq] at h1
 obtain ⟨rfl,-,rfl⟩:=h1
 dsimp only at hR3 hrow
 clear hob hoF h2 h3
 repeat' (first|((with_reducible apply b9 b8);rfl;rfl;rfl)|((with_reducible apply c9);rfl;(((with_reducible apply Loads.sl b8);rfl;(first|exact hS.blkC 0 rfl rfl|exact hS.rowCj 2 rfl (by assumption) rfl)));rfl)|((with_reducible apply l5 b8);rfl;rfl;rfl;((rfl));((omega));rfl)|refine yDn (by with_reducible constructor) ?_|((with_reducible apply d8);rfl;all_goals (intro hb hp;try (exfalso;omega))))
 refine k9 (X:=Nat×(List Ob×Int)×(Option Addr×Nat)×(Array MapEntry×Nat)) (fun x=>[(32,.int .i64 (x.1:Nat))]) [0,5,30,31] rfl (fun x=>LkM gw rb rp x.2.2.1.1 x.2.2.1.2 x.2.2.2.1 x.2.2.2.2 x.2.1) (fun x=>PlI x.2.2.2.1 x.2.1.1/\AllI B x.2.1/\a1B B J.needs s=a1B B (J.needs.drop x.1) x.2.1/\n < x.2.1.1.length/\x.1<=J.needs.length) (fun x=>J.needs.length - x.1) (0,s,(some ⟨b,0,none⟩,c2),(es2,cc2)) (by exact Fr.sub_of rfl) ⟨hP2,hA2,rfl,hlt,xi5 _⟩ hS ?_
 clear hS hP2 hrow
 rintro ⟨k,s3,⟨p3,c3⟩,⟨es3,cc3⟩⟩ w3 ⟨hP3,hA3,hN3,hn3,hk3⟩ hS
 dsimp only [LkM,LkS,List.cons_append,List.nil_append] at hP3 hA3 hN3 hn3 hk3 hS |-
 have hlen3:=hA3.len
 have hnx3:=hA3.hi
 have hnl3:=hA3.lo
 by_cases hkt:k < J.needs.length
 rotate_left
 ·rw [xn8 (by omega)] at hN3
  rw [hN3] at hR3
  replace hR3:R=a3C B (8 - (n + 1)) (n + 1) s3:=hR3
  repeat' (first|((with_reducible apply b9 b8);rfl;rfl;rfl)|((with_reducible apply i7);rfl;rfl;omega;omega;rfl)|refine yDn (by with_reducible constructor) ?_|((with_reducible apply d8);rfl;all_goals (intro hb hp;try (exfalso;omega))))
  exact f7 (n + 1,s3,(p3,c3),(es3,cc3)) (by exact Fr.sub_of rfl) ⟨hP3,hA3,hR3,by show n + 1<=s3.1.length;omega⟩ hS (by show 8 - (n + 1) < 8 - n;omega)
 obtain ⟨nm,hnm⟩:=i9 (l:=J.needs) (i:=k) (by omega)
 have hrow:=d9 (f:=stC) hnm
 obtain ⟨b2,off2,rfl,hro⟩:=hnd.atF (i:=k) hkt
 rw [a8Z hnm] at hN3
 unfold stC at hrow
 cases hlk:a5S B nm with
 |none=>
  rw [hlk] at hN3
  replace hN3:a1B B J.needs s=none:=hN3
  rw [hN3] at hR3
  replace hR3:R=none:=hR3
  have hno:∀ v,(stK nm,v) ∉ (B.map fun o=>(stK o.im.name,a7k o)):=fun v hv=>by
   obtain ⟨x,hx,e⟩:=xh0.1 hv
   have e1:=congrArg Prod.fst e
   unfold stK at e1
   exact b05 hlk x hx (by simpa using e1)
  repeat' (first|((with_reducible apply b9 b8);rfl;rfl;rfl)|((with_reducible apply c9);rfl;(((with_reducible apply Loads.sc b8);rfl;(first|exact hS.blkC 0 rfl rfl|exact hS.roC0 (by assumption) (by assumption) rfl)));rfl)|((with_reducible apply l5 b8);rfl;rfl;rfl;((rfl));((omega));rfl)|refine yDn (by with_reducible constructor) ?_|((with_reducible apply e8);rfl;(rfl))|((with_reducible apply d6 hS b8);rfl;rfl;rfl;clear hS;intro g w' hS)|((with_reducible apply d5 hS b8 (i:=0));(iterate 8 rfl);((exact (rfl:_=[_,_,_,_,_,_])));clear hS;intro w' hS;simp only [List.set] at hS)|((with_reducible apply d8);rfl;all_goals (intro hb hp;try (exfalso;omega)))|((with_reducible apply y7);rfl;exact b53 hS (i:=3) a2g a1H b3G rfl rfl rfl hB (k:=stK nm) trivial hno true;rintro _ _ ⟨rfl,rfl⟩))
  (refine j4 rfl ?_)
  refine ⟨by rw [hR3];rfl,p3,c3,es3,cc3,s3,hP3,hA3,fun s' hs'=>(by rw [hR3] at hs';cases hs'),?_⟩
  exact hS.drop
 |some y=>
  rw [hlk] at hN3
  replace hN3:a1B B J.needs s=a1B B (J.needs.drop (k + 1)) (v6 s3 y):=hN3
  obtain ⟨hy,hyn⟩:=a7w hlk
  have hv:(stK nm,a7k y) ∈ (B.map fun o=>(stK o.im.name,a7k o)):=xh0.2 ⟨y,hy,by rw [hyn]⟩
  have hyF:=hF _ hy
  have hyo:=hok _ hy
  have hA4:=hA3.step hy hyo
  have hpl:=b0c s3 y
  obtain ⟨Y,wn,ws,wy,wr,b0⟩:=y
  have hyv:ImV w3 Y wn ws wy wr:=hyF.now hS
  obtain ⟨rn,en,rfl⟩:=hyv.needs.len
  obtain ⟨rs,es_,rfl⟩:=hyv.segs.len
  obtain ⟨ry,ey,rfl⟩:=hyv.syms.len
  obtain ⟨rr,er,rfl⟩:=hyv.rels.len
  unfold a7k imC at hv
  repeat' (first|((with_reducible apply b9 b8);rfl;rfl;rfl)|((with_reducible apply c9);rfl;(first|((with_reducible apply Loads.sc b8);rfl;(first|exact hS.blkC 0 rfl rfl|exact hS.roC0 (by assumption) (by assumption) rfl))|((with_reducible apply Loads.st b8);rfl;((exact hS.blkR 0 rfl));rfl));rfl)|((with_reducible apply l5 b8);rfl;rfl;rfl;((rfl));((omega));rfl)|refine yDn (by with_reducible constructor) ?_|((with_reducible apply f8);rfl;(rfl))|((with_reducible apply d6 hS b8);rfl;rfl;rfl;clear hS;intro g w' hS)|((with_reducible apply d5 hS b8 (i:=0));(iterate 8 rfl);((exact (rfl:_=[_,_,_,_,_,_])));clear hS;intro w' hS;simp only [List.set] at hS)|((with_reducible apply d8);rfl;all_goals (intro hb hp;try (exfalso;omega)))|((with_reducible apply y7);rfl;exact b0F hS (i:=3) a2g a1H rfl rfl rfl hB (k:=stK nm) trivial hv true;rintro _ _ ⟨rfl,rfl⟩))
  repeat' (fail)
  replace hS:=St.reorder [1,2,3,4] hS (by decide) rfl
  have hMs1:=hyF.segs.nowM (Θ:=LkM gw rb rp p3 c3 es3 cc3 s3) hS
  have hMv1:=hyF.now hS
  ((with_reducible apply x8);rfl;rfl;exact a9F (p:=p3) (c:=c3) (es:=es3) (cc:=cc3) (os:=s3.1) (next:=s3.2) hS hP3 hMv1 hMs1 hyo.s1 hyo.s2 hyo.s3 (by omega) (by omega) (by omega);rfl;rintro _ w' ⟨rfl,p4,c4,es4,cc4,hP4,hS'⟩)
  replace hS:=St.transM (Θ:=LkM gw rb rp p3 c3 es3 cc3 s3) hS hS'
  clear hS' hMs1 hMv1
  obtain ⟨s4,hs4⟩:∃ s4,s4=v6 s3 ⟨Y,.slice rn Y.needs.length en,.slice rs Y.segs.length es_,.slice ry Y.syms.length ey,.slice rr Y.rels.length er,b0⟩:=⟨_,rfl⟩
  rw [<- hs4] at hA4 hN3 hpl
  replace hP4:PlI es4 s4.1:=by rw [hs4];exact hP4
  replace hS:St G w w' (LkM gw rb rp p4 c4 es4 cc4 s4++[.obj rb (.map esb cb)]):=by rw [hs4];exact hS
  clear hs4
  simp only [LkM,LkS,List.cons_append,List.nil_append] at hS
  repeat' (first|((with_reducible apply b9 b8);rfl;rfl;rfl)|((with_reducible apply i7);rfl;rfl;omega;omega;rfl)|refine yDn (by with_reducible constructor) ?_)
  exact f7 (k + 1,s4,(p4,c4),(es4,cc4)) (by exact Fr.sub_of rfl) ⟨hP4,hA4,hN3,xb9 hn3 hpl,by show k + 1<=_;omega⟩ hS (by show _ - (k + 1) < _ - k;omega)
section
variable {F:Nat->Prop} {w0 w w':World} {Γ Δ:List Asr}
theorem St.reorderT (m:Nat) (is:List Nat) (h:St F w0 w Γ) (hn:is.Nodup/\∀ i ∈ is,i < m) (hp:a9x Γ is=some Δ):St F w0 w (x9 Δ (Γ.drop m)):=by
 rw [a6a]
 have h1:=h.reorder is hn.1 hp
 have h2:=h.sub (List.drop_sublist m Γ)
 refine ⟨h.os,h.tape,h.output,h.size,h.base,fun A hA=>?_,fun A hA=>?_,?_⟩
 ·rcases xe3.1 hA with hA|hA
  ·exact h1.holds A hA
  ·exact h2.holds A hA
 ·rcases xe3.1 hA with hA|hA
  ·exact h1.own A hA
  ·exact h2.own A hA
 ·rw [xe4]
  refine ⟨h1.apart,h2.apart,fun a ha b hb=>?_⟩
  obtain ⟨j,hj⟩:=xd9.1 ha
  obtain ⟨k,hk⟩:=xd9.1 hb
  obtain ⟨i,hi,hi2⟩:=a4L hp j a hj
  rw [xb8] at hk
  have:=hn.2 i (xd0 hi)
  exact a3t h.apart hi2 hk (by omega)
end
structure Bx where
 g:Nat
 pg:Int
 data:List UInt8
 p:Option Addr
 c:Nat
 fx:List Fx
def Bx.v (b:Bx):Value:=.slice b.p b.fx.length b.c
def bxB (b:Bx):Asr:=.blk b.g [.int .i64 b.pg,.string ⟨b.data.toArray⟩,.slice b.p b.fx.length b.c]
def bxR (b:Bx):Asr:=.row 96 2 (.slice b.p b.fx.length b.c) (b.fx.map fxC)
def bxs (l:List Bx):List Asr:=l.map bxB++l.map bxR
def kvB (b:Bx):Value×Value:=(.int .i64 b.pg,.pointer (some ⟨b.g,0,none⟩))
def a2N (b:Bx):Int×List UInt8×List Fx:=(b.pg,b.data,b.fx)
theorem a9W (b:Bx) (l:List Bx):(bxs (b::l)).Perm (bxB b::bxR b::bxs l):=by
 unfold bxs
 simp only [xc2,List.cons_append]
 exact List.Perm.cons _ xp2
theorem a9m {l m:List Bx} (h:l.Perm m):(bxs l).Perm (bxs m):=(h.map bxB).append (h.map bxR)
theorem b4D (b:Bx) (l:List Bx):(bxB b::bxR b::bxs l).Perm (bxs (l++[b])):=(a9W b l).symm.trans (a9m (xi2 (l₁:=[b]) (l₂:=l)))
theorem a1n {α:Type}:∀ {l:List α} {k:Nat} {b:α},l[k]?=some b->l.Perm (b::l.eraseIdx k):=by
 intro l
 induction l with
 |nil=>intro k b h;simp at h
 |cons a l ih=>
  intro k b h
  cases k with
  |zero=>simp at h;subst h;simp
  |succ k=>
   simp only [List.getElem?_cons_succ] at h
   rw [List.eraseIdx_cons_succ]
   exact ((ih h).cons a).trans (List.Perm.swap b a _)
theorem a89 {l:List Bx} {k:Nat} {b:Bx} (h:l[k]?=some b):(bxs l).Perm (bxB b::bxR b::bxs (l.eraseIdx k)):=(a9m (a1n h)).trans (a9W b _)
theorem a2W {α:Type}:∀ {l:List α} {k:Nat} {b:α},(l.set k b).eraseIdx k=l.eraseIdx k:=by
 intro l
 induction l with
 |nil=>intro k b;simp
 |cons a l ih=>
  intro k b
  cases k with
  |zero=>simp
  |succ k=>simp only [List.set_cons_succ,List.eraseIdx_cons_succ,ih]
theorem b5S {l:List Bx} {k:Nat} {b0 b:Bx} (h:l[k]?=some b0):(bxB b::bxR b::bxs (l.eraseIdx k)).Perm (bxs (l.set k b)):=by
 have h1:=a89 (l:=l.set k b) (k:=k) (b:=b) (by rw [xe0];simp [(xa7.1 h).1])
 rw [a2W] at h1
 exact h1.symm
def a18 (d:List UInt8) (n:Nat):List UInt8:=(d.drop (n * 16)).take 16++List.replicate (16 - ((d.drop (n * 16)).take 16).length) 0
theorem a6H (d:List UInt8) (n:Nat):(a18 d n).length=16:=by
 unfold a18
 simp only [xe9,xb0,xa1]
 omega
def pgK (b0:Int) (s:Sg) (n:Nat):Int×List UInt8×List Fx:=(b0 + s.pg + n,a18 s.data n,[])
def a3n (b0:Int) (s:Sg) (m:Nat):List (Int×List UInt8×List Fx):=(List.range m).map (pgK b0 s)
def a06 (b0:Int) (l:List Sg):List (Int×List UInt8×List Fx):=l.flatMap fun s=>a3n b0 s s.n.toNat
theorem b3b (b0:Int) (s:Sg) (m:Nat):a3n b0 s (m + 1)=a3n b0 s m++[pgK b0 s m]:=by
 unfold a3n
 rw [List.range_succ,xk2]
 rfl
theorem a7G {b0:Int} {l:List Sg} {j:Nat} {s:Sg} (h:l[j]?=some s):a06 b0 (l.take (j + 1))=a06 b0 (l.take j)++a3n b0 s s.n.toNat:=by
 unfold a06
 rw [xp5,h]
 simp
theorem a8z:(Tryz.prog).underlying 3=some (.int .i64):=by kernel_rfl
theorem a3U:(Tryz.prog).underlying 188=some (.map 3 199):=by kernel_rfl
def a4p (at_:Int) (s:List UInt8) (pg:Int):List Fx :=
 let fr:=at_ - 16 * pg
 let a:=max fr 0
 let e:=min (fr + s.length) 16
 if a < e then [⟨a,(s.drop (a - fr).toNat).take (e - a).toNat⟩] else []
theorem a2q {α:Type} (s:List α) (d i m:Nat) (h:i + m<=d):((s.take d).drop i).take m=(s.drop i).take m:=by
 rw [List.drop_take,List.take_take,xo0 (by omega)]
theorem a7U {at_:Int} {s:List UInt8} {d n:Nat} {off:Int} (h0:0<=at_) (hd:d < s.length) (hoff:off=(at_ + d) % 16) (hal:d=0\/off=0) (hn:(n:Int)=min ((s.length:Int) - d) (16 - off)) (pg:Int) :
  a4p at_ (s.take (d + n)) pg=a4p at_ (s.take d) pg++(if pg=(at_ + d) / 16 then [⟨off,(s.drop d).take n⟩] else []):=by
 have hl1:(s.take (d + n)).length=d + n:=by rw [xa1];omega
 have hl2:(s.take d).length=d:=by rw [xa1];omega
 unfold a4p
 dsimp only []
 rw [hl1,hl2]
 by_cases hp:pg=(at_ + d) / 16
 ·rw [xf0 hp]
  have h1:¬ max (at_ - 16 * pg) 0 < min (at_ - 16 * pg + (d:Nat)) 16:=by omega
  have h2:max (at_ - 16 * pg) 0 < min (at_ - 16 * pg + ((d + n:Nat):Int)) 16:=by omega
  rw [xf1 h1,xf0 h2,List.nil_append]
  have h3:max (at_ - 16 * pg) 0=off:=by omega
  have h4:min (at_ - 16 * pg + ((d + n:Nat):Int)) 16=off + n:=by omega
  rw [h3,h4,show (off - (at_ - 16 * pg)).toNat=d by omega,show (off + n - off).toNat=n by omega,a2q _ _ _ _ (by omega)]
 ·rw [xf1 hp,List.append_nil]
  by_cases hlt:pg < (at_ + d) / 16
  ·have h3:min (at_ - 16 * pg + ((d + n:Nat):Int)) 16=16:=by omega
   have h4:min (at_ - 16 * pg + (d:Int)) 16=16:=by omega
   rw [h3,h4]
   by_cases ha:max (at_ - 16 * pg) 0 < 16
   ·rw [xf0 ha,xf0 ha,a2q _ _ _ _ (by omega),a2q _ _ _ _ (by omega)]
   ·rw [xf1 ha,xf1 ha]
  ·rw [xf1 (by omega),xf1 (by omega)]
theorem b32 (at_ pg:Int):a4p at_ [] pg=[]:=by
 unfold a4p
 rw [xf1 (by simp only [xa2];omega)]
def a2E (os:List (Im×Int)) (at_:Int) (r:Rl):Option (List UInt8):=(if r.name=[] then some at_ else adr os r.name).map fun t=>leB (IntKind.i64.wrap (t + r.add)) 8
def a8O (os:List (Im×Int)) (at_:Int) (r:Rl):List UInt8:=(a2E os at_ r).getD []
def a6E (os:List (Im×Int)) (at_:Int) (l:List Rl):Bool:=l.all fun r=>(a2E os at_ r).isSome
def a5T (os:List (Im×Int)) (at_:Int) (l:List Rl) (pg:Int):List Fx:=l.flatMap fun r=>a4p (at_ + r.at_) (a8O os at_ r) pg
def b73 (os:List (Im×Int)) (at_:Int) (l:List Rl) (k:Int×List UInt8×List Fx):Sh:=⟨k.1,k.2.1,a5T os at_ l k.1⟩
def shO (os:List (Im×Int)) (I:Im) (b0:Int):List Sh:=(a06 b0 I.segs).map (b73 os (b0 * 16) I.rels)
def a35 (b0:Int) (s:Sg):Ar:=⟨b0 + s.pg,s.n,rgt s,false⟩
def a5Z (A:List Ar) (b0:Int) (l:List Sg):List Ar:=(l.map (a35 b0)).foldl z9 A
theorem a9Q (at_:Int) (s:List UInt8) (pg:Int):(a4p at_ s pg).length<=1:=by
 unfold a4p
 dsimp only []
 split <;> simp
theorem b2E (os:List (Im×Int)) (at_:Int) (l:List Rl) (pg:Int):(a5T os at_ l pg).length<=l.length:=by
 unfold a5T
 induction l with
 |nil=>simp
 |cons r l ih=>
  have:=a9Q (at_ + r.at_) (a8O os at_ r) pg
  simp only [xj7,xe9,xb3]
  omega
theorem b04 {os:List (Im×Int)} {at_:Int} {l:List Rl} {j:Nat} {r:Rl} (h:l[j]?=some r) (pg:Int):a5T os at_ (l.take (j + 1)) pg=a5T os at_ (l.take j) pg++a4p (at_ + r.at_) (a8O os at_ r) pg:=by
 unfold a5T
 rw [xp5,h]
 simp
theorem b2R {A:List Ar} {b0:Int} {l:List Sg} {j:Nat} {s:Sg} (h:l[j]?=some s):a5Z A b0 (l.take (j + 1))=z9 (a5Z A b0 (l.take j)) (a35 b0 s):=by
 unfold a5Z
 rw [xp5,h]
 simp
theorem a6N {b0:Int} {s:Sg} {m:Nat} {k:Int×List UInt8×List Fx} (h:k ∈ a3n b0 s m):∃ n:Nat,n < m/\k=pgK b0 s n:=by
 unfold a3n at h
 obtain ⟨n,hn,rfl⟩:=xh0.1 h
 exact ⟨n,xi8.1 hn,rfl⟩
theorem a9k (b0:Int):∀ {l:List Sg},Ch l->l.all a2O=true->(∀ k ∈ a06 b0 l,∀ s,l[0]?=some s->b0 + s.pg<=k.1)/\(a06 b0 l).Pairwise fun a b=>a.1 < b.1
 |[],_,_=>⟨by simp,by simp [a06]⟩
 |s::l,hch,hs=>by
  have hch':Ch l:=fun j a b h1 h2=>hch (j + 1) a b (by simpa using h1) (by simpa using h2)
  simp only [xl3,xb4] at hs
  obtain ⟨i1,i2⟩:=a9k b0 hch' hs.2
  have e:a06 b0 (s::l)=a3n b0 s s.n.toNat++a06 b0 l:=by unfold a06;simp
  have hso:=hs.1
  unfold a2O at hso
  have hso:=xl4 hso
  have later:∀ k ∈ a06 b0 l,b0 + s.pg + s.n<=k.1:=fun k hk=>by
   cases l with
   |nil=>simp [a06] at hk
   |cons t l=>
    have h1:=i1 k hk t rfl
    have h2:=hch 0 s t rfl rfl
    omega
  rw [e]
  refine ⟨fun k hk s' hs'=>?_,?_⟩
  ·simp only [List.getElem?_cons_zero,Option.some.injEq] at hs'
   subst hs'
   rcases xe3.1 hk with h|h
   ·obtain ⟨n,-,rfl⟩:=a6N h
    show _<=b0 + s.pg + (n:Int)
    omega
   ·have:=later k h
    omega
  ·rw [xe4]
   refine ⟨?_,i2,fun a ha b hb=>?_⟩
   ·unfold a3n
    rw [List.pairwise_map]
    refine List.pairwise_lt_range.imp ?_
    intro a b hab
    show b0 + s.pg + (a:Int) < b0 + s.pg + (b:Int)
    omega
   ·obtain ⟨n,hn,rfl⟩:=a6N ha
    have:=later b hb
    show b0 + s.pg + (n:Int) < b.1
    omega
theorem b12 {b0:Int} {l:List Sg} (hch:Ch l) (hs:l.all a2O=true):((a06 b0 l).map (·.1)).Nodup:=by
 have:=(a9k b0 hch hs).2
 unfold List.Nodup
 rw [List.pairwise_map]
 exact this.imp fun h=>by omega
theorem a65 (b0:Int) (s:Sg) (m:Nat):(a3n b0 s m).length=m:=by unfold a3n;simp
theorem b5l {b0:Int} {l:List Sg} {j n:Nat} {s:Sg} (h:l[j]?=some s) (hn:n < s.n.toNat):(a06 b0 l)[(a06 b0 (l.take j)).length + n]?=some (pgK b0 s n):=by
 have e:a06 b0 l=a06 b0 (l.take j)++(a3n b0 s s.n.toNat++a06 b0 (l.drop (j + 1))):=by
  conv=>lhs;rw [<- xm4 j l,a2A h]
  unfold a06
  simp
 rw [e,xa5 (by omega),Nat.add_sub_cancel_left,xa6 (by rw [a65];exact hn)]
 unfold a3n
 rw [xm3,List.getElem?_range hn]
 rfl
theorem a64 {b0:Int} {l:List Sg} (hs:l.all a2O=true):(a06 b0 l).length<=255 * l.length:=by
 induction l with
 |nil=>simp [a06]
 |cons s l ih=>
  simp only [xl3,xb4] at hs
  have hso:=hs.1
  unfold a2O at hso
  have hso:=xl4 hso
  have e:a06 b0 (s::l)=a3n b0 s s.n.toNat++a06 b0 l:=by unfold a06;simp
  have:=ih hs.2
  rw [e,xe9,a65,xb3]
  omega
theorem b2w {b0:Int} {l:List Sg} {x:Int} (h:(own l x).isSome=true):∃ k ∈ a06 b0 l,k.1=(b0 * 16 + x) / 16:=by
 obtain ⟨s,hs⟩:=xg7.1 h
 unfold own at hs
 have hm:=xj4 hs
 have hin:=xg8 hs
 unfold a6n at hin
 have hin:=xl4 hin
 refine ⟨pgK b0 s (x / 16 - s.pg).toNat,?_,?_⟩
 ·unfold a06 a3n
  refine xg9.2 ⟨s,hm,xh0.2 ⟨_,xi8.2 ?_,rfl⟩⟩
  omega
 ·show b0 + s.pg + ((x / 16 - s.pg).toNat:Int)=_
  omega
def AOk (A:List Ar):Prop:=∀ a ∈ A,a.z=false/\0<=a.pg/\0<=a.n/\a.pg + a.n<=200000/\0<=a.prot/\a.prot<=3
theorem AOk.step {A:List Ar} {a:Ar} (h:AOk A) (ha:a.z=false/\0<=a.pg/\0<=a.n/\a.pg + a.n<=200000/\0<=a.prot/\a.prot<=3):AOk (z9 A a):=by
 unfold z9
 split
 ·rename_i b hb
  have hbm:=h b (List.mem_of_getLast? hb)
  split
  ·rename_i hal
   unfold Ar.alike at hal
   intro x hx
   rcases xe3.1 hx with h1|h1
   ·exact h x ((List.dropLast_sublist A).subset h1)
   ·obtain rfl:x={ b with n:=b.n + a.n }:=by simpa using h1
    have e1:b.fin=a.pg:=hal.1
    unfold Ar.fin at e1
    obtain ⟨q1,q2,q3,q4,q5,q6⟩:=hbm
    obtain ⟨p1,p2,p3,p4,p5,p6⟩:=ha
    refine ⟨q1,q2,?_,?_,q5,q6⟩
    ·show 0<=b.n + a.n
     omega
    ·show b.pg + (b.n + a.n)<=200000
     omega
  ·intro x hx
   rcases xe3.1 hx with h1|h1
   ·exact h x h1
   ·obtain rfl:x=a:=by simpa using h1
    exact ha
 ·intro x hx
  rcases xe3.1 hx with h1|h1
  ·exact h x h1
  ·obtain rfl:x=a:=by simpa using h1
   exact ha
def imR (o:Ob):List Value:=imC o.im o.vn o.vs o.vy o.vr
def a1Y:List Ob->Int
 |[]=>0
 |o::l=>a1Q o.im + a1Y l
theorem b2r (l m:List Ob):a1Y (l++m)=a1Y l + a1Y m:=by
 induction l with
 |nil=>simp [a1Y]
 |cons o l ih=>simp only [List.cons_append,a1Y,ih];omega
structure PkI (s:List Ob×Int):Prop where
 nx:s.2=1 + a1Y s.1
 at_:∀ (i:Nat) (o:Ob),s.1[i]?=some o->o.at_=(1 + a1Y (s.1.take i)) * 16
theorem PkI.start:PkI ([],1):=⟨rfl,fun i o h=>by simp at h⟩
theorem PkI.step {s:List Ob×Int} (o:Ob) (h:PkI s):PkI (v6 s o):=by
 unfold v6 a7s a4z
 by_cases hp:a8B s.1 o.im.name=true
 ·rw [xf0 hp,xf0 hp];exact h
 ·rw [xf1 hp,xf1 hp]
  refine ⟨?_,fun i x hx=>?_⟩
  ·show s.2 + a1Q o.im=1 + a1Y (s.1++[_])
   rw [b2r,h.nx]
   simp only [a1Y]
   omega
  ·dsimp only at hx |-
   rcases xq4 i s.1.length with hi|hi
   ·rw [xa6 hi] at hx
    rw [List.take_append_of_le_length (by omega)]
    exact h.at_ i x hx
   ·rw [xa5 hi] at hx
    obtain ⟨h1,h2⟩:=xa7.1 hx
    simp only [xn2] at h1
    obtain rfl:i=s.1.length:=by omega
    simp only [xf8,xp9] at h2
    subst h2
    rw [List.take_left]
    show s.2 * 16=_
    rw [h.nx]
theorem b0V {B:List Ob} {Inv:List Ob×Int->Prop} (hst:∀ s o,Inv s->o ∈ B->Inv (v6 s o)):∀ {l:List (List UInt8)} {s s':List Ob×Int},a1B B l s=some s'->Inv s->Inv s':=by
 intro l
 induction l with
 |nil=>intro s s' h hI;cases h;exact hI
 |cons nm l ih=>
  intro s s' h hI
  unfold a1B at h
  cases hl:a5S B nm with
  |none=>rw [hl] at h;cases h
  |some o=>rw [hl] at h;exact ih h (hst s o hI (a7w hl).1)
theorem a9I {B:List Ob} {Inv:List Ob×Int->Prop} (hst:∀ s o,Inv s->o ∈ B->Inv (v6 s o)):∀ {f n:Nat} {s s':List Ob×Int},a3C B f n s=some s'->Inv s->Inv s':=by
 intro f
 induction f with
 |zero=>intro n s s' h hI;cases h;exact hI
 |succ f ih=>
  intro n s s' h hI
  unfold a3C at h
  split at h
  ·cases h;exact hI
  ·split at h
   ·cases h
   ·rename_i s2 h2
    exact ih h (b0V hst h2 hI)
def a3H (l:List Ob):List Ar:=(l.flatMap fun o=>o.im.segs.map (a35 (o.at_ / 16))).foldl z9 []
def a5A (os:List (Im×Int)) (l:List Ob):List Sh:=l.flatMap fun o=>shO os o.im (o.at_ / 16)
def a54 (os:List (Im×Int)) (l:List Ob):Bool:=l.all fun o=>a6E os o.at_ o.im.rels
theorem a96 {l:List Ob} {j:Nat} {o:Ob} (h:l[j]?=some o):a3H (l.take (j + 1))=a5Z (a3H (l.take j)) (o.at_ / 16) o.im.segs:=by
 unfold a3H a5Z
 rw [xp5,h]
 simp only [xm9,xj6,xj7,xj8,List.append_nil,xj5]
theorem a90 {os:List (Im×Int)} {l:List Ob} {j:Nat} {o:Ob} (h:l[j]?=some o):a5A os (l.take (j + 1))=a5A os (l.take j)++shO os o.im (o.at_ / 16):=by
 unfold a5A
 rw [xp5,h]
 simp only [xm9,xj6,xj7,xj8,List.append_nil]
theorem b5Z {A:List Ar} {b0:Int} (hA:AOk A) (h0:1<=b0) (h1:b0<=100000):∀ {l:List Sg},l.all a2O=true->AOk (a5Z A b0 l)/\(a5Z A b0 l).length<=A.length + l.length:=by
 intro l
 unfold a5Z
 induction l generalizing A with
 |nil=>exact fun _=>⟨hA,xd4 _⟩
 |cons s l ih=>
  intro hs
  simp only [xl3,xb4] at hs
  have hso:=hs.1
  unfold a2O at hso
  have hso:=xl4 hso
  have hrg:0<=rgt s/\rgt s<=3:=by unfold rgt;split <;> split <;> decide
  have h2:AOk (z9 A (a35 b0 s)):=by
   refine hA.step ⟨rfl,?_,?_,?_,hrg⟩
   ·show 0<=b0 + s.pg
    omega
   ·show 0<=s.n
    omega
   ·show b0 + s.pg + s.n<=200000
    omega
  obtain ⟨i1,i2⟩:=ih h2 hs.2
  refine ⟨i1,?_⟩
  have h3:(z9 A (a35 b0 s)).length<=A.length + 1:=by
   unfold z9
   split
   ·split
    ·simp
    ·simp
   ·simp
  simp only [xc2,xg3,xb3]
  omega
theorem a1U {I:Im} (h:s8 I=0):b0K I/\I.rels.length<=16/\Ch I.segs/\Plc I:=by
 unfold s8 at h
 have e1:a9K I=true:=by
  cases hq:a9K I with
  |true=>rfl
  |false=>rw [xf0 hq] at h;omega
 rw [xf1 (by rw [e1];simp)] at h
 have e2:a9T I=true:=by
  cases hq:a9T I with
  |true=>rfl
  |false=>rw [xf0 hq] at h;omega
 rw [xf1 (by rw [e2];simp)] at h
 have e3:a5f I=true:=by
  cases hq:a5f I with
  |true=>rfl
  |false=>rw [xf0 hq] at h;omega
 rw [xf1 (by rw [e3];simp)] at h
 have e4:a7n I=true:=by
  cases hq:a7n I with
  |true=>rfl
  |false=>rw [xf0 hq] at h;omega
 rw [xf1 (by rw [e4];simp)] at h
 have e5:a82 I=true:=by
  cases hq:a82 I with
  |true=>rfl
  |false=>rw [xf0 hq] at h;omega
 have c:=xl4 e2
 exact ⟨⟨by omega,e3,by omega⟩,by omega,(b3o.1 e4).1,b3o.1 e5⟩
theorem a70 {l:List Sg} {x:Int} {s:Sg} (hs:l.all a2O=true) (h:own l x=some s):0<=x/\x < 4096:=by
 unfold own at h
 have hm:=xj4 h
 have hin:=xg8 h
 unfold a6n at hin
 have hin:=xl4 hin
 have hso:=xc7.1 hs s hm
 unfold a2O at hso
 have hso:=xl4 hso
 omega
noncomputable def a47 (M:Ob) (Lb:List Ob):Int :=
 if 6 < Lb.length then 2 else
 match (M::Lb).find? (fun o=>!decide (s8 o.im=0)) with
 |some o=>s8 o.im
 |none=>if ((M::Lb).map fun o=>o.im.name).Nodup then
   match a3C (M::Lb) 8 0 (v6 ([],1) M) with
   |none=>6
   |some s=>if s.2 > 256 then 3 else if a54 (obP s.1) s.1=true then 0 else 7
  else 5
def Fst (M:Ob) (s:List Ob×Int):Prop:=∃ r,s.1={ M with at_:=16 }::r
theorem b2j (M:Ob):Fst M (v6 ([],1) M):=⟨[],rfl⟩
theorem b4R {M:Ob} {s:List Ob×Int} (o:Ob) (h:Fst M s):Fst M (v6 s o):=by
 obtain ⟨r,hr⟩:=h
 unfold v6 a7s
 split
 ·exact ⟨r,hr⟩
 ·exact ⟨r++[_],by show s.1++[_]=_;rw [hr];rfl⟩
def gK (b:Bx):Nat×Int×List UInt8×List Fx:=(b.g,a2N b)
def gF (at_:Int) (s:List UInt8) (b:Bx):Nat×Int×List UInt8×List Fx:=(b.g,b.pg,b.data,b.fx++a4p at_ s b.pg)
theorem b50 {bs bs':List Bx} {at_:Int} {s:List UInt8} {d n k:Nat} {off:Int} {b1 b2:Bx} (hK:bs'.map gK=bs.map (gF at_ (s.take d))) (hnd:(bs.map (·.pg)).Nodup) (hk:bs'[k]?=some b1) (hpg:b1.pg=(at_ + d) / 16) (hb:(b2.g,a2N b2)=(b1.g,b1.pg,b1.data,b1.fx++[⟨off,(s.drop d).take n⟩]))
  (h0:0<=at_) (hd:d < s.length) (hoff:off=(at_ + d) % 16) (hal:d=0\/off=0) (hn:(n:Int)=min ((s.length:Int) - d) (16 - off)):(bs'.set k b2).map gK=bs.map (gF at_ (s.take (d + n))):=by
 have hat:∀ j:Nat,(bs'[j]?).map gK=(bs[j]?).map (gF at_ (s.take d)):=fun j=>by
  have:=congrArg (fun l:List (Nat×Int×List UInt8×List Fx)=>l[j]?) hK
  simpa only [xm3] using this
 have hkl:=(xa7.1 hk).1
 obtain ⟨b0,hb0⟩:∃ b0,bs[k]?=some b0:=by
  have:=hat k
  rw [hk] at this
  cases h:bs[k]? with
  |none=>rw [h] at this;cases this
  |some x=>exact ⟨x,rfl⟩
 have hk0:=hat k
 rw [hk,hb0] at hk0
 simp only [xn5,Option.some.injEq,gK,gF,a2N,Prod.mk.injEq] at hk0 hb
 obtain ⟨e1,e2,e3,e4⟩:=hk0
 obtain ⟨f1,f2,f3,f4⟩:=hb
 apply xm8
 intro j
 rw [xm3,xm3,xe0]
 by_cases hj:k=j
 ·subst hj
  rw [xf0 rfl,xf0 hkl,hb0]
  simp only [xn5,gK,gF,a2N,Option.some.injEq,Prod.mk.injEq]
  refine ⟨by rw [f1,e1],by rw [f2,e2],by rw [f3,e3],?_⟩
  rw [f4,e4,a7U h0 hd hoff hal hn,xf0 (by rw [<- e2];exact hpg),xg2]
 ·rw [xf1 hj,hat j]
  cases hj2:bs[j]? with
  |none=>rfl
  |some x=>
   have hne:x.pg≠(at_ + d) / 16:=fun e=>by
    have h1:(bs.map (·.pg))[j]?=some ((at_ + d) / 16):=by rw [xm3,hj2];simp [e]
    have h2:(bs.map (·.pg))[k]?=some ((at_ + d) / 16):=by rw [xm3,hb0];simp [<- e2,hpg]
    obtain ⟨l1,v1⟩:=xa7.1 h1
    obtain ⟨l2,v2⟩:=xa7.1 h2
    exact hj ((List.getElem_inj hnd).1 (v2.trans v1.symm))
   simp only [xn5,gF]
   rw [a7U h0 hd hoff hal hn,xf1 hne,List.append_nil]
theorem b1U {bs bs':List Bx} {f:Bx->Int×List UInt8×List Fx} (hf:∀ b,(f b).1=b.pg) (h:bs'.map gK=bs.map fun b=>(b.g,f b)):bs'.map kvB=bs.map kvB:=by
 have h2:=congrArg (List.map fun (x:Nat×Int×List UInt8×List Fx)=>(Value.int .i64 x.2.1,Value.pointer (some ⟨x.1,0,none⟩))) h
 rw [xl6,xl6] at h2
 refine Eq.trans ?_ (h2.trans ?_)
 ·rfl
 ·apply xq2
  intro b _
  show (Value.int .i64 (f b).1,_)=_
  rw [hf]
  rfl
theorem b4Y {F:Nat->Prop} {w0 w:World} {Γ:List Asr} {r c:Nat} {es:Array MapEntry} {bs:List Bx} {at_:Int} {s:List UInt8} (hS0:St F w0 w ((.obj r (.map es c)::bxs bs)++Γ)) (hM:MapG (.int .i64) es (bs.map kvB)) (hs:s.length=8) (h0:0<=at_) (h1:at_<=1000000000) (hp:∀ d:Nat,d < 8->∃ b ∈ bs,b.pg=(at_ + d) / 16) (hnd:(bs.map (·.pg)).Nodup) (hfx:∀ b ∈ bs,b.fx.length<=1000000) :
  Fn Tryz.prog 97 [.map (some r),.int .i64 at_,.string ⟨s.toArray⟩] w (fun _ w'=>∃ bs':List Bx,bs'.map gK=bs.map (gF at_ s)/\St (fps (.obj r (.map es c)::bxs bs)) w w' (.obj r (.map es c)::bxs bs')):=by
 refine yEn Tryz.func97 Tryz.ntmps97 (by kernel_rfl) (by kernel_rfl) rfl rfl ?_
 have hS:=St.startM hS0
 generalize hG:fps (.obj r (.map es c)::bxs bs)=G at hS |-
 repeat' ((refine yDn (by with_reducible constructor) ?_))
 refine k9 (Γ:=[]) (X:=Nat×Int×List UInt8×List Bx) (fun x=>[(1,.int .i64 x.2.1),(2,.string ⟨x.2.2.1.toArray⟩)]) [0] rfl (fun x=>.obj r (.map es c)::bxs x.2.2.2) (fun x=>x.1<=8/\x.2.1=at_ + (x.1:Nat)/\x.2.2.1=s.drop x.1/\(x.1=0\/x.1=8\/(at_ + (x.1:Nat)) % 16=0)/\x.2.2.2.map gK=bs.map (gF at_ (s.take x.1))) (fun x=>8 - x.1) (0,at_,s,bs) (by exact Fr.sub_of rfl) ⟨by omega,by simp,rfl,xd6 rfl,by unfold gF;simp only [xh4,b32,List.append_nil];rfl⟩ (by simpa only [List.append_nil] using hS) ?_
 clear hS
 rintro ⟨d,a,t,bs'⟩ w1 ⟨hd,ha,ht,hal,hK⟩ hS
 dsimp only [] at hd ha ht hal hK hS |-
 simp only [List.append_nil] at hS
 have hM':MapG (.int .i64) es (bs'.map kvB):=by rw [b1U (f:=fun b=>(b.pg,b.data,b.fx++a4p at_ (s.take d) b.pg)) (fun _=>rfl) hK];exact hM
 by_cases hlt:d < 8
 rotate_left
 ·obtain rfl:d=8:=by omega
  rw [xn8 (by omega)] at ht
  subst ht
  repeat' (first|((with_reducible apply b9 b8);rfl;rfl;rfl)|refine yDn (by with_reducible constructor) ?_|((with_reducible apply f8);rfl;(rfl)))
  ((apply b38);repeat ((exact ResL.nil)))
  refine ⟨bs',?_,hS⟩
  rw [hK,xa0 (by omega)]
 have hdl:t.length=8 - d:=by rw [ht,xb7];omega
 have hne:(!decide (t=[]))=true:=by rw [xh9 (fun e=>by rw [e] at hdl;simp only [xa2] at hdl;omega)];rfl
 have hat:∀ j:Nat,(bs'[j]?).map gK=(bs[j]?).map (gF at_ (s.take d)):=fun j=>by
  have:=congrArg (fun l:List (Nat×Int×List UInt8×List Fx)=>l[j]?) hK
  simpa only [xm3] using this
 obtain ⟨k,b1,hk,hpg,hfl⟩:∃ (k:Nat) (b1:Bx),bs'[k]?=some b1/\b1.pg=(at_ + d) / 16/\b1.fx.length<=1000001:=by
  obtain ⟨b0,hb0,hb0p⟩:=hp d hlt
  obtain ⟨k,hk0⟩:=xd9.1 hb0
  have:=hat k
  rw [hk0] at this
  cases h:bs'[k]? with
  |none=>rw [h] at this;cases this
  |some x=>
   rw [h] at this
   simp only [xn5,Option.some.injEq,gK,gF,a2N,Prod.mk.injEq] at this
   refine ⟨k,x,h,by rw [this.2.1];exact hb0p,?_⟩
   have h1:=hfx b0 hb0
   have h2:=a9Q at_ (s.take d) b0.pg
   rw [this.2.2.2,xe9]
   omega
 clear hat
 replace hS:=hS.perm ((a89 hk).cons _)
 have hkv:(Value.int .i64 b1.pg,Value.pointer (some ⟨b1.g,0,none⟩)) ∈ bs'.map kvB:=xh0.2 ⟨_,xd0 hk,rfl⟩
 have e1:a.tmod 16=a % 16:=xf3 (by omega)
 have e2:a.tdiv 16=b1.pg:=by rw [xf2 (by omega),ha];exact hpg.symm
 rw [<- e2] at hkv
 obtain ⟨n,hn⟩:∃ n:Nat,(n:Int)=min (t.length:Int) (16 - a.tmod 16):=⟨(min (t.length:Int) (16 - a.tmod 16)).toNat,by omega⟩
 have hfin:=fun b2 hb=>b50 (b2:=b2) (n:=n) hK hnd hk hpg hb h0 (by omega) (off:=a.tmod 16) (by omega) (by omega) (by omega)
 obtain ⟨g,pg,data,p,cp,fx⟩:=b1
 unfold bxB bxR at hS
 dsimp only at hS hkv hfl hpg e2 hfin
 repeat' (first|((with_reducible apply b9 b8);rfl;rfl;rfl)|((with_reducible apply a0x);rfl;rfl;omega;omega;rfl)|refine yDn (by with_reducible constructor) ?_|((with_reducible apply e8);rfl;(assumption))|((with_reducible apply a3J);rfl;rfl;omega;rfl)|((with_reducible apply a0D);rfl;rfl;omega;omega;omega;rfl)|((with_reducible apply b7M);rfl;rfl;rfl;rw [<- hn])|((with_reducible apply y7);rfl;exact b0F hS (i:=0) a3U a8z rfl rfl rfl hM' (k:=.int .i64 (a.tdiv 16)) rfl hkv false;rintro _ _ ⟨rfl,rfl⟩))
 rw [<- ht] at hfin
 refine a3v (fun w'=>(Asr.blk g [Value.int IntKind.i64 pg,Value.string { data:=data.toArray },Value.slice p fx.length cp]).holds w') 14 15 rfl hS (by kernel_rfl) ?_
 intro w10 hS'
 clear hS;have hS:=hS';clear hS'
 have hH:=hS.at_ (i:=1) rfl
 ((with_reducible apply a0T (nn 0) b8);rfl;kernel_rfl;kernel_rfl;kernel_rfl;rfl;exact (fun _ _ _ h=>h);exact xd3 hH;rfl;rfl)
 ((with_reducible apply a0T (nn 1) b8);rfl;kernel_rfl;kernel_rfl;kernel_rfl;rfl;exact (fun _ _ _ h=>h);exact xd3 hH;rfl;rfl)
 ((with_reducible apply a0T (nn 2) b8);rfl;kernel_rfl;kernel_rfl;kernel_rfl;rfl;exact (fun _ _ _ h=>h);exact xd3 hH;rfl;rfl)
 ((with_reducible apply a0T (nn 3) b8);rfl;kernel_rfl;kernel_rfl;kernel_rfl;rfl;exact (fun _ _ _ h=>h);exact xd3 hH;rfl;rfl)
 ((with_reducible apply a4F (nn 4));rfl;kernel_rfl;kernel_rfl;kernel_rfl;kernel_rfl;rfl;rfl;exact (fun _ _ _ h=>h);exact hH;rfl;(intro w2 hw2;((with_reducible apply Loads.sl b8);rfl;exact a3j hw2 rfl));rfl)
 ((with_reducible apply a0T (nn 5) b8);rfl;kernel_rfl;kernel_rfl;kernel_rfl;rfl;exact (fun _ _ _ h=>h);exact xd3 hH;rfl;rfl)
 ((with_reducible apply a0T (nn 6) b8);rfl;kernel_rfl;kernel_rfl;kernel_rfl;rfl;exact (fun _ _ _ h=>h);exact xd3 hH;rfl;rfl)
 ((with_reducible apply a0T (nn 7) b8);rfl;kernel_rfl;kernel_rfl;kernel_rfl;rfl;exact (fun _ _ _ h=>h);exact xd3 hH;rfl;rfl)
 refine o7 (i:=8) (by kernel_rfl) ?_
 refine q8 rfl (Gets.of_runs fun a ha=>b1L b8 rfl rfl rfl (by omega) (by omega) a ha _) rfl ?_
 rintro _ _ ⟨rfl,rfl⟩
 refine ⟨xd3 (xd3 hH),?_⟩
 refine o7 (i:=9) (by kernel_rfl) ?_
 ((with_reducible apply b1z b8);rfl;rfl;rfl;((exact (rfl:_=some [_,_])));rfl)
 refine ⟨xd3 (xd3 hH),?_⟩
 refine o7 (i:=10) (by kernel_rfl) ?_
 refine q8 rfl (z0 hS b8 rfl rfl rfl rfl rfl rfl) rfl ?_
 rintro _ w' ⟨g9,rfl,hS'⟩
 clear hS;have hS:=hS';clear hS'
 have hH:=hS.at_ (i:=2) rfl
 refine ⟨xd3 (xd3 hH),?_⟩
 refine o7 (i:=11) (by kernel_rfl) ?_
 refine q8 rfl (a0K hS b8 (i:=3) rfl rfl rfl rfl (hS.rowRo 0 rfl) rfl (by simp only [xh1];omega)) rfl ?_
 rintro _ w' ⟨p',c',rfl,hS'⟩
 simp only [List.set] at hS'
 clear hS;have hS:=hS';clear hS'
 have hH:=hS.at_ (i:=2) rfl
 refine ⟨xd3 (xd3 hH),?_⟩
 ((with_reducible apply a0T (nn 12) b8);rfl;kernel_rfl;kernel_rfl;kernel_rfl;rfl;exact (fun _ _ _ h=>h);exact xd3 hH;rfl;rfl)
 ((with_reducible apply a0T (nn 13) b8);rfl;kernel_rfl;kernel_rfl;kernel_rfl;rfl;exact (fun _ _ _ h=>h);exact xd3 hH;rfl;rfl)
 refine o7 (i:=14) (by kernel_rfl) ?_
 refine a04 (Φ:=fun _ w'=>St _ _ w' _) rfl (l9 hS b8 (i:=2) rfl rfl rfl rfl rfl (xg4 rfl) (by intro u hu;simp [Value.cells] at hu;subst hu;rfl)) ?_
 intro _ w' hS'
 simp only [List.set] at hS'
 clear hS;have hS:=hS';clear hS'
 refine ⟨xd6 rfl,?_⟩
 refine a1x (by kernel_rfl) ?_
 repeat' ((refine yDn (by with_reducible constructor) ?_))
 (focus ((with_reducible apply e7 _ _ _ (by kernel_rfl) (by kernel_rfl) hS);(repeat' (first|(first|((with_reducible apply a10);rfl;rfl;omega;omega;rfl)|((with_reducible apply j3 b8);rfl;rfl))|((with_reducible apply b2q b8);rfl;rfl;rfl;omega;omega;rfl)));all_goals ((with_reducible apply k8);intro w' hS';clear hS;have hS:=hS';clear hS')))
 repeat' ((refine yDn (by with_reducible constructor) ?_))
 rw [xa9,xh1] at hS
 have hf2:=hfin ⟨g,pg,data,p',c',fx++[⟨a.tmod 16,t.take n⟩]⟩ rfl
 have hS2:=hS.drop
 clear hS
 replace hS2:St G w w' (.obj r (.map es c)::bxB ⟨g,pg,data,p',c',fx++[⟨a.tmod 16,t.take n⟩]⟩::bxR ⟨g,pg,data,p',c',fx++[⟨a.tmod 16,t.take n⟩]⟩::bxs (bs'.eraseIdx k)):=by
  unfold bxB bxR
  dsimp only []
  rw [xe9,xk2]
  exact hS2
 replace hS2:=hS2.perm ((b5S hk).cons _)
 exact f7 (d + n,a + n,t.drop (n:Int).toNat,_) (by exact Fr.sub_of rfl) ⟨by show d + n<=8;omega,by show a + n=at_ + ((d + n:Nat):Int);omega,by show t.drop (n:Int).toNat=s.drop (d + n);rw [xa9,ht,xp0],by show d + n=0\/d + n=8\/(at_ + ((d + n:Nat):Int)) % 16=0;omega,hf2⟩ (by simpa only [List.append_nil] using hS2) (by show 8 - (d + n) < 8 - d;omega)
theorem b2y {w:World} {I:Im} {vn vs vy vr:Value} {b0:Int} (hI:ImV w I vn vs vy vr) (hs2:I.segs.all a2O=true) (hch:Ch I.segs) (h0:1<=b0) (h1:b0<=100000) :
  Fn Tryz.prog 94 [.agg (obC ⟨I,vn,vs,vy,vr,b0 * 16⟩).toArray] w (fun v w'=>∃ r es c bs,v=.map (some r)/\MapG (.int .i64) es (bs.map kvB)/\bs.map a2N=a06 b0 I.segs/\St nF w w' (.obj r (.map es c)::bxs bs)):=by
 have bn:=hI.needs.bound;have bs:=hI.segs.bound;have by_:=hI.syms.bound;have br:=hI.rels.bound;obtain ⟨pn,cn,rfl⟩:=hI.needs.len;obtain ⟨ps,cs,rfl⟩:=hI.segs.len;obtain ⟨py,cy,rfl⟩:=hI.syms.len;obtain ⟨pr,cr,rfl⟩:=hI.rels.len
 show Fn _ _ [.agg [.string ⟨I.name.toArray⟩,.slice pn I.needs.length cn,.slice ps I.segs.length cs,.slice py I.syms.length cy,.slice pr I.rels.length cr,.int .i64 I.entry,.int .i64 (b0 * 16)].toArray] _ _
 refine yEn Tryz.func94 Tryz.ntmps94 (by kernel_rfl) (by kernel_rfl) rfl rfl ?_
 have hS:=St.start w
 repeat' (first|((with_reducible apply b9 b8);rfl;rfl;rfl)|((with_reducible apply c9);rfl;(((with_reducible apply Loads.sl b8);rfl;((exact hS.blkC 1 rfl rfl))));rfl)|refine yDn (by with_reducible constructor) ?_|((with_reducible apply k7 hS);rfl;rfl;rfl;clear hS;intro g w' hS)|((with_reducible apply y7);rfl;exact a7N hS;rintro _ w' ⟨r,rfl,hS'⟩;clear hS;have hS:=hS';clear hS'))
 obtain ⟨g1,hg1⟩:∃ g1,g1=g:=⟨_,rfl⟩
 rw [<- hg1] at hS |-
 clear hg1
 refine k9 (Γ:=[]) (X:=Nat×List Bx×Array MapEntry×Nat) (fun x=>[(15,.int .i64 (x.1:Nat))]) [1,3,13,14] rfl (fun x=>.obj r (.map x.2.2.1 x.2.2.2)::.blk g1 [.string ⟨I.name.toArray⟩,.slice pn I.needs.length cn,.slice ps I.segs.length cs,.slice py I.syms.length cy,.slice pr I.rels.length cr,.int .i64 I.entry,.int .i64 (b0 * 16)]::bxs x.2.1) (fun x=>x.1<=I.segs.length/\MapG (.int .i64) x.2.2.1 (x.2.1.map kvB)/\x.2.1.map a2N=a06 b0 (I.segs.take x.1)/\∀ b ∈ x.2.1,∀ s,I.segs[x.1]?=some s->b.pg < b0 + s.pg) (fun x=>I.segs.length - x.1) (0,[],#[],0) (by exact Fr.sub_of rfl) ⟨xi5 _,MapG.nil _,rfl,fun _ h=>nomatch h⟩ hS ?_
 clear hS
 rintro ⟨j,bs,es,c⟩ w1 ⟨hj,hM,hK,hB⟩ hS
 dsimp only [] at hj hM hK hB hS |-
 simp only [List.cons_append,List.append_nil] at hS
 by_cases hlt:j < I.segs.length
 rotate_left
 ·rw [xa0 (by omega)] at hK
  repeat' (first|((with_reducible apply b9 b8);rfl;rfl;rfl)|refine yDn (by with_reducible constructor) ?_|((with_reducible apply d8);rfl;all_goals (intro hb hp;try (exfalso;omega))))
  (refine j4 rfl ?_)
  replace hS:=St.reorderT 2 [0] hS (by decide) rfl
  simp only [x9,xk4,xk5] at hS
  exact ⟨r,es,c,bs,rfl,hM,hK,hS⟩
 obtain ⟨s,hs⟩:=i9 (l:=I.segs) (i:=j) (by omega)
 have hrow:=d9 (f:=sgC) hs
 unfold sgC at hrow
 obtain ⟨b,off,rfl,hro⟩:=hI.segs.at_ (i:=j) hlt
 obtain ⟨y1,y2,y3,y4,y5⟩:=a7x hs2 hs
 obtain ⟨m,hm⟩:∃ m:Nat,(m:Int)=s.n:=⟨s.n.toNat,by omega⟩
 repeat' (first|((with_reducible apply b9 b8);rfl;rfl;rfl)|((with_reducible apply c9);rfl;(first|((with_reducible apply Loads.sc b8);rfl;((exact hS.blkC 0 rfl rfl)))|((with_reducible apply Loads.st b8);rfl;((exact hS.roR (by assumption) (by assumption)));rfl));rfl)|((with_reducible apply l5 b8);rfl;rfl;rfl;((rfl));((omega));rfl)|refine yDn (by with_reducible constructor) ?_|((with_reducible apply d6 hS b8);rfl;rfl;rfl;clear hS;intro g w' hS)|((with_reducible apply d5 hS b8 (i:=0));(iterate 8 rfl);((exact (rfl:_=[_,_,_,_,_])));clear hS;intro w' hS;simp only [List.set] at hS)|((with_reducible apply d8);rfl;all_goals (intro hb hp;try (exfalso;omega))))
 rename Nat=>g5
 refine k9 (Γ:=[]) (X:=Nat×List Bx×Array MapEntry×Nat) (fun x=>[(21,.int .i64 (x.1:Nat))]) [1,3,13,14,15,5,20] rfl (fun x=>.blk g5 [.int .i64 s.pg,.int .i64 s.n,.string ⟨s.data.toArray⟩,.bool s.wr,.bool s.ex]::.obj r (.map x.2.2.1 x.2.2.2)::.blk g1 [.string ⟨I.name.toArray⟩,.slice pn I.needs.length cn,.slice (some ⟨b,off,none⟩) I.segs.length cs,.slice py I.syms.length cy,.slice pr I.rels.length cr,.int .i64 I.entry,.int .i64 (b0 * 16)]::bxs x.2.1) (fun x=>x.1<=m/\MapG (.int .i64) x.2.2.1 (x.2.1.map kvB)/\x.2.1.map a2N=a06 b0 (I.segs.take j)++a3n b0 s x.1/\∀ b ∈ x.2.1,b.pg < b0 + s.pg + x.1) (fun x=>m - x.1) (0,bs,es,c) (by exact Fr.sub_of rfl) ⟨xi5 _,hM,by rw [hK];simp [a3n],fun x hx=>by have:=hB x hx s hs;show _ < _ + ((0:Nat):Int);omega⟩ (by simpa only [List.append_nil] using hS) ?_
 clear hS hM hK hB
 rintro ⟨n,bs,es,c⟩ w2 ⟨hn,hM,hK,hB⟩ hS
 dsimp only [] at hn hM hK hB hS |-
 simp only [List.cons_append,List.append_nil] at hS
 by_cases hnt:n < m
 rotate_left
 ·obtain rfl:n=m:=by omega
  repeat' (first|((with_reducible apply b9 b8);rfl;rfl;rfl)|((with_reducible apply i7);rfl;rfl;omega;omega;rfl)|refine yDn (by with_reducible constructor) ?_|((with_reducible apply d8);rfl;all_goals (intro hb hp;try (exfalso;omega))))
  replace hS:=St.reorderT 3 [1,2] hS (by decide) rfl
  simp only [x9,xk4,xk5] at hS
  refine f7 (j + 1,bs,es,c) (by exact Fr.sub_of rfl) ⟨by show j + 1<=_;omega,hM,?_,?_⟩ (by simpa only [List.append_nil] using hS) (by show _ - (j + 1) < _ - j;omega)
  ·show bs.map a2N=a06 b0 (I.segs.take (j + 1))
   rw [a7G hs,hK,show s.n.toNat=n by omega]
  ·intro x hx s' hs'
   have h2:=hB x hx
   have h3:=hch j s s' hs hs'
   show x.pg < b0 + s'.pg
   omega
 have hno:∀ v,(Value.int .i64 (b0 + s.pg + n),v) ∉ bs.map kvB:=fun v hv=>by
  obtain ⟨x,hx,e⟩:=xh0.1 hv
  have h2:=hB x hx
  unfold kvB at e
  simp only [Prod.mk.injEq,Value.int.injEq] at e
  omega
 have hquo:(b0 * 16).tdiv 16=b0:=Int.mul_tdiv_cancel _ (by omega)
 rw [<- hquo] at hno
 have fin:∀ (w':World) (g7:Nat),St nF w w' (.row 5 1 (.slice (some ⟨g7,0,none⟩) 16 16) (bR (a18 s.data n))::.blk g5 [.int .i64 s.pg,.int .i64 s.n,.string ⟨s.data.toArray⟩,.bool s.wr,.bool s.ex]::.obj r (.map es c)::.blk g1 [.string ⟨I.name.toArray⟩,.slice pn I.needs.length cn,.slice (some ⟨b,off,none⟩) I.segs.length cs,.slice py I.syms.length cy,.slice pr I.rels.length cr,.int .i64 I.entry,.int .i64 (b0 * 16)]::bxs bs)->∀ (g9:Nat) (w9:World) (es':Array MapEntry) (c':Nat),St nF w w9 (.blk g9 [.int .i64 ((b0 * 16).tdiv 16 + s.pg + n),.string ⟨(a18 s.data n).toArray⟩,.slice none 0 0]::.row 5 1 (.slice (some ⟨g7,0,none⟩) 16 16) (bR (a18 s.data n))::.blk g5 [.int .i64 s.pg,.int .i64 s.n,.string ⟨s.data.toArray⟩,.bool s.wr,.bool s.ex]::.obj r (.map es' c')::.blk g1 [.string ⟨I.name.toArray⟩,.slice pn I.needs.length cn,.slice (some ⟨b,off,none⟩) I.segs.length cs,.slice py I.syms.length cy,.slice pr I.rels.length cr,.int .i64 I.entry,.int .i64 (b0 * 16)]::bxs bs)->MapG (.int .i64) es' (bs.map kvB++[(.int .i64 ((b0 * 16).tdiv 16 + s.pg + n),.pointer (some ⟨g9,0,none⟩))])->∃ bx:Bx,St nF w w9 (.blk g5 [.int .i64 s.pg,.int .i64 s.n,.string ⟨s.data.toArray⟩,.bool s.wr,.bool s.ex]::.obj r (.map es' c')::.blk g1 [.string ⟨I.name.toArray⟩,.slice pn I.needs.length cn,.slice (some ⟨b,off,none⟩) I.segs.length cs,.slice py I.syms.length cy,.slice pr I.rels.length cr,.int .i64 I.entry,.int .i64 (b0 * 16)]::bxs (bs++[bx]))/\MapG (.int .i64) es' ((bs++[bx]).map kvB)/\(bs++[bx]).map a2N=a06 b0 (I.segs.take j)++a3n b0 s (n + 1)/\∀ b ∈ bs++[bx],b.pg < b0 + s.pg + ((n + 1:Nat):Int):=by
  intro w' g7 _ g9 w9 es' c' hS hM'
  rw [hquo] at hS hM'
  refine ⟨⟨g9,b0 + s.pg + n,a18 s.data n,none,0,[]⟩,?_,?_,?_,?_⟩
  ·replace hS:=hS.addNil 96 2
   replace hS:=St.reorderT 6 [3,4,5,1,0] hS (by decide) rfl
   simp only [x9,xk4,xk5] at hS
   exact hS.perm ((((b4D ⟨g9,b0 + s.pg + n,a18 s.data n,none,0,[]⟩ bs).cons _).cons _).cons _)
  ·rw [xk2]
   exact hM'
  ·rw [xk2,hK,b3b,xg2]
   rfl
  ·intro x hx
   rcases xe3.1 hx with h|h
   ·have:=hB x h;omega
   ·have:x.pg=b0 + s.pg + n:=by simp only [xn1] at h;rw [h]
    omega
 by_cases hfr:(n:Int) * 16 < s.data.length
 ·repeat' (first|((with_reducible apply b9 b8);rfl;rfl;rfl)|((with_reducible apply c9);rfl;(((with_reducible apply Loads.sc b8);rfl;(first|exact hS.blkC 1 rfl rfl|exact hS.blkC 3 rfl rfl)));rfl)|((with_reducible apply i7);rfl;rfl;omega;omega;rfl)|((with_reducible apply b1O);rfl;rfl;omega;omega;rfl)|refine yDn (by with_reducible constructor) ?_|((with_reducible apply d8);rfl;all_goals (intro hb hp;try (exfalso;omega)))|((with_reducible apply a6z hS b8 (m:=16));(iterate 5 rfl);omega;omega;rfl;rfl;intro g7 w' hS';clear hS;have hS:=hS';clear hS')|((with_reducible apply a7M b8);rfl;rfl;rfl;omega;omega;rfl)|((with_reducible apply y7);rfl;exact b58 hS b8 (i:=0) (old:=List.replicate 16 0) rfl rfl rfl rfl;rintro _ w' ⟨rfl,hS'⟩;simp only [List.set] at hS';clear hS;have hS:=hS';clear hS')|((with_reducible apply a0D);rfl;rfl;omega;omega;omega;rfl))
  have hd:List.take 16 (List.drop ((n:Int) * 16).toNat s.data)++List.drop (List.take 16 (List.drop ((n:Int) * 16).toNat s.data)).length (List.replicate 16 0)=a18 s.data n:=by
   unfold a18
   rw [show ((n:Int) * 16).toNat=n * 16 by omega,List.drop_replicate]
  rw [hd] at hS
  have hf:=fin _ _ hS
  clear fin
  repeat' (first|((with_reducible apply l4 b8);rfl;rfl;((exact (rfl:_=some [_,_,_])));rfl)|((with_reducible apply k7 hS);rfl;rfl;rfl;clear hS;intro g w' hS)|((with_reducible apply b1E hS b8 0);(iterate 5 rfl);(rw [a6H];omega);rfl))
  refine a2a (a8U hS (i:=3) a3U a8z rfl rfl rfl rfl hM (k:=.int .i64 ((b0 * 16).tdiv 16 + s.pg + n)) rfl hno) ?_
  rintro - w9 ⟨es',c',hM',hS'⟩
  simp only [List.set] at hS'
  obtain ⟨bx,hS2,hM2,hK2,hB2⟩:=hf _ w9 es' c' hS' hM'
  clear hf hS hS' hM'
  have hS:=hS2
  repeat' (first|((with_reducible apply b9 b8);rfl;rfl;rfl)|((with_reducible apply i7);rfl;rfl;omega;omega;rfl)|refine yDn (by with_reducible constructor) ?_)
  exact f7 (n + 1,bs++[bx],es',c') (by exact Fr.sub_of rfl) ⟨by show n + 1<=m;omega,hM2,hK2,hB2⟩ (by simpa only [List.append_nil] using hS) (by show m - (n + 1) < m - n;omega)
 ·repeat' (first|((with_reducible apply b9 b8);rfl;rfl;rfl)|((with_reducible apply c9);rfl;(((with_reducible apply Loads.sc b8);rfl;(first|exact hS.blkC 1 rfl rfl|exact hS.blkC 3 rfl rfl)));rfl)|((with_reducible apply i7);rfl;rfl;omega;omega;rfl)|((with_reducible apply b1O);rfl;rfl;omega;omega;rfl)|refine yDn (by with_reducible constructor) ?_|((with_reducible apply d8);rfl;all_goals (intro hb hp;try (exfalso;omega)))|((with_reducible apply a6z hS b8 (m:=16));(iterate 5 rfl);omega;omega;rfl;rfl;intro g7 w' hS';clear hS;have hS:=hS';clear hS')|((with_reducible apply a0D);rfl;rfl;omega;omega;omega;rfl))
  have hd:List.replicate 16 [Value.int .u8 0]=bR (a18 s.data n):=by
   unfold a18
   rw [xn8 (by omega)]
   rfl
  rw [hd] at hS
  have hf:=fin _ _ hS
  clear fin
  repeat' (first|((with_reducible apply l4 b8);rfl;rfl;((exact (rfl:_=some [_,_,_])));rfl)|((with_reducible apply k7 hS);rfl;rfl;rfl;clear hS;intro g w' hS)|((with_reducible apply b1E hS b8 0);(iterate 5 rfl);(rw [a6H];omega);rfl))
  refine a2a (a8U hS (i:=3) a3U a8z rfl rfl rfl rfl hM (k:=.int .i64 ((b0 * 16).tdiv 16 + s.pg + n)) rfl hno) ?_
  rintro - w9 ⟨es',c',hM',hS'⟩
  simp only [List.set] at hS'
  obtain ⟨bx,hS2,hM2,hK2,hB2⟩:=hf _ w9 es' c' hS' hM'
  clear hf hS hS' hM'
  have hS:=hS2
  repeat' (first|((with_reducible apply b9 b8);rfl;rfl;rfl)|((with_reducible apply i7);rfl;rfl;omega;omega;rfl)|refine yDn (by with_reducible constructor) ?_)
  exact f7 (n + 1,bs++[bx],es',c') (by exact Fr.sub_of rfl) ⟨by show n + 1<=m;omega,hM2,hK2,hB2⟩ (by simpa only [List.append_nil] using hS) (by show m - (n + 1) < m - n;omega)
end Go.Proofs.YtejnpppejalhfabGreat
