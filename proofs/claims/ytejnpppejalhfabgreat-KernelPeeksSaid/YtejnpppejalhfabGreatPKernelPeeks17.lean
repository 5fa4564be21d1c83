/- Texts that the proof stands on, one behind the other: Ke30, Ke31, Ke32. -/
import Derived.Test.YtejnpppejalhfabGreatPKernelPeeks16
namespace Go.Proofs.YtejnpppejalhfabGreat
set_option maxRecDepth 100000
set_option maxHeartbeats 8000000
open Go.RowKit Go.Sort
theorem perm6 {α:Type} {a b c d e f:α} {W R:List α}:(a::b::c::d::e::f::(W++R)).Perm ((b::a::W)++(R++[c,d,e,f])):=by
 refine (List.Perm.swap _ _ _).trans (List.Perm.cons _ (List.Perm.cons _ ?_))
 refine (xi2 (l₁:=[c,d,e,f])).trans ?_
 exact List.Perm.of_eq (xg2 W R _)
section
variable {P:Program} {n:Nat} {ds:List Deferred} {E:Fr} {w:World} {Q:Exit->Act->World->Prop} {ops:Array Oper} {S:World->Prop} {fuel:Nat} {li:Array Bool} {d:Nat} {op:Op} {ty:TypeId} {pos:String} {after:Array Edge} {F:Nat->Prop} {w0:World} {Γ:List Asr} {T:Tab}
theorem b6c (k i:Nat) {t u e sz2:Nat} {z2:Value} {x:Operand} {v:Value} {l:List UInt8} (hi:ops[i]?=some ⟨some d,.convert t u x,ty,pos,after,none⟩) (hs:Region.noSelect ops=true) (hf:Region.free .any ops li i=true) (hr:(Region.ready .any ops li).contains i=true)
  (hQ:∀ c (a:Act) w,Q (.panic c) (a.put (some d) (.string ⟨l.toArray⟩)) w->Q (.panic c) a w) (hS:S w) (hT:TabOk P T) (ht:T.get t=some (.sl e 1 1 false [.int .u8 0])) (he:T.get e=some (.sc (.int .u8) 1 (.int .u8 0))) (hu2:T.get u=some (.sc .string sz2 z2)) (hx:E.ev x=some v)
  (hl:∀ w,S w->St F w0 w Γ) (hg:Γ[k]?=some (.row e 1 v (bR l))) (hne:0 < l.length) (hd:Nat.blt d n=true) (kk:WA P ops Q S fuel (li.setIfInBounds i true) n ds ((d,.string ⟨l.toArray⟩)::E) w):WA P ops Q S (fuel + 1) li n ds E w:=fun a ha=>
 wpAnyH_take hi hs hf hr hQ (xd6 ⟨rfl,fun w hw=>by
  have hS:=hl w hw
  obtain ⟨ji,zv,hu,hinfo,_⟩:=hT.sl ht
  obtain ⟨_,hus,_⟩:=hT.sc hu2
  obtain ⟨_,hue,_⟩:=hT.sc he
  rcases hS.rowForm k hg with ⟨rfl,h0⟩|⟨g,cap,rfl,_⟩
  ·have:=congrArg List.length h0
   rw [a4t,xa2] at this
   omega
  ·have hrun:=run_convert_bytes_back (P:=P) w t u e ⟨g,0,none⟩ cap l hu hue hus (fun j hj=>by
    rw [a3L]
    have:=hS.rowC k hg (k:=j) (j:=0) (r:=[.int .u8 l[j].toNat]) (u:=.int .u8 l[j].toNat) (by unfold bR;simp [hj]) rfl
    simpa using this)
   rw [a4t] at hx
   simp only [execOp,ha.ev hx,Sem.run_bind,hrun,Result.andThen_ok,Sem.run_pure]⟩) hS (kk _ (ha.put d _ hd))
end
def okL (K:Ker) (space addr size way:Int):Prop:=okR K space addr size way/\way≠1
instance (K:Ker) (space addr size way:Int):Decidable (okL K space addr size way):=by unfold okL;infer_instance
def a4b (K:Ker) (space size way:Int):Int:=if x7 K space size way=0/\way=1 then 10 else x7 K space size way
def a4c (K:Ker) (space addr size way:Int):Int×Int:=if way=1 then (0,0) else a2I K space addr size way
def a40 (K:Ker) (space addr size way:Int):Ker:=if okL K space addr size way then a1D K space.toNat addr size false else a8h
def a38 (K:Ker) (space addr size way:Int):List UInt8:=if okL K space addr size way then a3R (a1D K space.toNat addr size false) space.toNat addr size.toNat else []
theorem b6a {K:Ker} {space addr size way:Int} (he:x7 K space size way≠0):a38 K space addr size way=[]/\a4c K space addr size way=(0,0)/\a4b K space size way=x7 K space size way/\a40 K space addr size way=a8h:=by
 unfold a38 a4c a4b a40
 have hn:¬okL K space addr size way:=fun h=>he h.1.1
 rw [xf1 hn,xf1 hn,xf1 (fun h:x7 K space size way=0/\way=1=>he h.1)]
 unfold a2I
 rw [xf1 he,ite_self]
 exact ⟨rfl,rfl,rfl,rfl⟩
theorem b1H {K:Ker} {space addr size way:Int} (he:x7 K space size way=0) (hw:way=1):a38 K space addr size way=[]/\a4c K space addr size way=(0,0)/\a4b K space size way=10/\a40 K space addr size way=a8h:=by
 unfold a38 a4c a4b a40
 have hn:¬okL K space addr size way:=fun h=>h.2 hw
 rw [xf1 hn,xf1 hn,xf0 hw,xf0 (⟨he,hw⟩:x7 K space size way=0/\way=1)]
 exact ⟨rfl,rfl,rfl,rfl⟩
theorem b5i {K:Ker} {space addr size way:Int} (he:x7 K space size way=0) (hf:(r5 (j9 K space.toNat) addr size way).1≠0) (hw:way≠1):a38 K space addr size way=[]/\a4c K space addr size way=r5 (j9 K space.toNat) addr size way/\a4b K space size way=0/\a40 K space addr size way=a8h:=by
 unfold a38 a4c a4b a40
 have hn:¬okL K space addr size way:=fun h=>hf h.1.2
 rw [xf1 hn,xf1 hn,xf1 hw,xf1 (fun h:x7 K space size way=0/\way=1=>hw h.2)]
 unfold a2I
 rw [xf0 he,he]
 exact ⟨rfl,rfl,rfl,rfl⟩
theorem b5U {K:Ker} {space addr size way:Int} (h:okL K space addr size way):a38 K space addr size way=a3R (a1D K space.toNat addr size false) space.toNat addr size.toNat/\a4c K space addr size way=(0,0)/\a4b K space size way=0/\a40 K space addr size way=a1D K space.toNat addr size false:=by
 unfold a38 a4c a4b a40
 rw [xf0 h,xf0 h,xf1 h.2,xf1 (fun h2:x7 K space size way=0/\way=1=>h.2 h2.2),a7W h.1,h.1.1]
 exact ⟨rfl,rfl,rfl,rfl⟩
theorem b5e {w:World} {k:KV} (hK:KerV w k) {space addr size way:Int} (hb0:-9223372036854775808<=addr) (hb1:addr<=9223372036854775807):Fn Tryz.prog 35 [.agg (kvC k).toArray,.int .i64 space,.int .i64 addr,.int .i64 size,.int .i64 way] w (fun v w'=>∃ k',v=.tuple #[.agg (kvC k').toArray,.string ⟨(a38 k.K space addr size way).toArray⟩,a3E (a4c k.K space addr size way),.int .i64 (a4b k.K space size way)]/\k'.K=a40 k.K space addr size way/\Came w w' k'):=by
 have hre:=fun w1 (h:KerV w1 k)=>a86 h (space:=space) (size:=size) (way:=way) hb0 hb1
 have hK0:=hK
 obtain ⟨sh,fr,sl,sps,hand,vsh,vfr,vsl,vsp⟩:=k
 obtain ⟨k1,k2,k3,k4,k5⟩:=hK
 dsimp only at k1 k2 k3 k4 k5
 obtain ⟨p1,c1,rfl⟩:=k1.sl.len
 obtain ⟨p2,c2,rfl⟩:=k2.len
 obtain ⟨p3,c3,rfl⟩:=k3.len
 obtain ⟨p4,c4,rfl⟩:=k4.len
 generalize hKK:KV.K ⟨sh,fr,sl,sps,hand,.slice p1 sh.length c1,.slice p2 fr.length c2,.slice p3 sl.length c3,.slice p4 sps.length c4⟩=K at hre |-
 have hpre:∀ w1 Γ1,St nF w w1 Γ1->KerV w1 ⟨sh,fr,sl,sps,hand,.slice p1 sh.length c1,.slice p2 fr.length c2,.slice p3 sl.length c3,.slice p4 sps.length c4⟩:=fun w1 Γ1 h=>hK0.now h
 unfold a3E at hre |-
 unfold kvC at hre
 dsimp only at hre
 unfold kvC
 dsimp only
 have hE0:∀ e:Int,decide (e=0)=true\/decide (e=0)=false:=fun e=>by cases decide (e=0) <;> simp
 refine yEn Tryz.func35 Tryz.ntmps35 (by kernel_rfl) (by kernel_rfl) rfl rfl ?_
 have hS:=St.start w
 repeat' (first|((with_reducible apply b9 b8);rfl;rfl;rfl)|((with_reducible apply c9);rfl;(((with_reducible apply Loads.st b8);rfl;((exact hS.blkR 2 rfl));rfl));rfl)|refine yDn (by with_reducible constructor) ?_|((with_reducible apply k7 hS);rfl;rfl;rfl;clear hS;intro g w' hS)|((with_reducible apply d6 hS b8);rfl;rfl;rfl;clear hS;intro g w' hS))
 refine x8 rfl rfl (hre _ (hpre _ _ hS)) rfl ?_
 rintro v w2 (⟨he,rfl,hS'⟩|⟨he,hf,rfl,hS'⟩|⟨gw,sp,k',vh,held,he,hf,hsp,rfl,hk',hS'⟩)
 ·replace hS:=hS.transA hS'
  simp only [x9] at hS
  have hd:decide (x7 K space size way=0)=false:=xh9 he
  repeat' (first|((with_reducible apply b9 b8);rfl;rfl;rfl)|refine yDn (by with_reducible constructor) ?_|((with_reducible apply p9);(iterate 4 rfl);((assumption));rfl)|((with_reducible apply e9);rfl;((assumption));rfl;rfl)|((with_reducible apply e8);rfl;(rfl))|((with_reducible apply f8);rfl;(rfl))|((with_reducible apply d6 hS b8);rfl;rfl;rfl;clear hS;intro g w' hS)|((with_reducible apply d5 hS b8 (i:=0));(iterate 8 rfl);((exact (rfl:_=[_,_])));clear hS;intro w' hS;simp only [List.set] at hS)|((with_reducible apply a2y (by kernel_rfl));rfl;rfl;rfl))
  rename Nat=>g14
  refine a12 (fun w'=>St nF w w' [.blk g14 [.int .i64 0,.int .i64 0]]) 7 rfl hS (by kernel_rfl) ?_
  intro w1 hS'
  clear hS;have hS:=hS';clear hS'
  have hH:St nF w w1 [.blk g14 [.int .i64 0,.int .i64 0]]:=hS.sub (.cons_cons _ (xh2 _))
  ((with_reducible apply v9 (nn 0) b8);rfl;kernel_rfl;kernel_rfl;kernel_rfl;exact (fun _ _ _ _ h=>h);exact hH;rfl;rfl;((exact (rfl:_=some [_,_,_,_,_])));rfl)
  ((with_reducible apply o9 (nn 1));rfl;kernel_rfl;exact (fun _ _ _ h=>h);exact hH;rfl;(intro wd hd;replace hd:St _ _ wd _:=hd;(((with_reducible apply Loads.st b8);rfl;((exact hd.blkR 0 rfl));rfl)));rfl)
  ((with_reducible apply j7 (nn 2) b8);rfl;kernel_rfl;exact (fun _ _ _ h=>h);exact hH;rfl;rfl)
  refine m5 (i:=3) (by kernel_rfl) ?_
  refine m9 (Φ:=fun _ w'=>St _ _ w' _) rfl (l9 hS b8 (i:=2) rfl rfl rfl rfl rfl (xg4 rfl) (xc7.1 rfl)) ?_
  intro _ w' hS'
  simp only [List.set] at hS'
  clear hS;have hS:=hS';clear hS'
  refine ⟨(hS.sub (.cons_cons _ (xh2 _))),?_⟩
  have hH:St nF w w' [.blk g14 [.int .i64 0,.int .i64 0]]:=hS.sub (.cons_cons _ (xh2 _))
  ((with_reducible apply j7 (nn 4) b8);rfl;kernel_rfl;exact (fun _ _ _ h=>h);exact hH;rfl;rfl)
  refine m5 (i:=5) (by kernel_rfl) ?_
  refine m9 (Φ:=fun _ w'=>St _ _ w' _) rfl (l9 hS b8 (i:=1) rfl rfl rfl rfl rfl (xg4 rfl) (xc7.1 rfl)) ?_
  intro _ w' hS'
  simp only [List.set] at hS'
  clear hS;have hS:=hS';clear hS'
  refine ⟨(hS.sub (.cons_cons _ (xh2 _))),?_⟩
  have hH:St nF w w' [.blk g14 [.int .i64 0,.int .i64 0]]:=hS.sub (.cons_cons _ (xh2 _))
  ((with_reducible apply j7 (nn 6) b8);rfl;kernel_rfl;exact (fun _ _ _ h=>h);exact hH;rfl;rfl)
  refine t7 (by kernel_rfl) ?_
  repeat' ((refine yDn (by with_reducible constructor) ?_))
  (apply a5p)
  (repeat (first|exact ResL.nil|(apply ResL.tmp;rfl)|(apply ResL.cell;rfl;(((with_reducible apply Loads.st b8);rfl;(first|exact hS.blkR 1 rfl|exact hS.blkR 2 rfl);rfl)))))
  obtain ⟨v1,v2,v3,v4⟩:=b6a he (addr:=addr)
  refine ⟨kv0,?_,?_,xd6 ⟨rfl,hS.sub (xh2 _)⟩⟩
  ·rw [v1,v2,v3];rfl
  ·rw [v4];rfl
 ·replace hS:=hS.transA hS'
  simp only [x9] at hS
  by_cases hw:way=1
  ·have hd:decide (way=1)=true:=xi0 hw
   repeat' (first|((with_reducible apply b9 b8);rfl;rfl;rfl)|((with_reducible apply l4 b8);rfl;rfl;((exact (rfl:_=some [_,_])));rfl)|refine yDn (by with_reducible constructor) ?_|((with_reducible apply k6);(iterate 4 rfl);(rfl))|((with_reducible apply f9);rfl;((rfl));rfl;rfl)|((with_reducible apply e8);rfl;first|rfl|assumption)|((with_reducible apply d6 hS b8);rfl;rfl;rfl;clear hS;intro g w' hS)|((with_reducible apply d5 hS b8 (i:=0));(iterate 8 rfl);((exact (rfl:_=[_,_])));clear hS;intro w' hS;simp only [List.set] at hS)|((with_reducible apply a2y (by kernel_rfl));rfl;rfl;rfl))
   rename Nat=>g14
   refine a12 (fun w'=>St nF w w' [.blk g14 [.int .i64 0,.int .i64 0]]) 7 rfl hS (by kernel_rfl) ?_
   intro w1 hS'
   clear hS;have hS:=hS';clear hS'
   have hH:St nF w w1 [.blk g14 [.int .i64 0,.int .i64 0]]:=hS.sub (.cons_cons _ (xh2 _))
   ((with_reducible apply v9 (nn 0) b8);rfl;kernel_rfl;kernel_rfl;kernel_rfl;exact (fun _ _ _ _ h=>h);exact hH;rfl;rfl;((exact (rfl:_=some [_,_,_,_,_])));rfl)
   ((with_reducible apply o9 (nn 1));rfl;kernel_rfl;exact (fun _ _ _ h=>h);exact hH;rfl;(intro wd hd;replace hd:St _ _ wd _:=hd;(((with_reducible apply Loads.st b8);rfl;((exact hd.blkR 0 rfl));rfl)));rfl)
   ((with_reducible apply j7 (nn 2) b8);rfl;kernel_rfl;exact (fun _ _ _ h=>h);exact hH;rfl;rfl)
   refine m5 (i:=3) (by kernel_rfl) ?_
   refine m9 (Φ:=fun _ w'=>St _ _ w' _) rfl (l9 hS b8 (i:=2) rfl rfl rfl rfl rfl (xg4 rfl) (xc7.1 rfl)) ?_
   intro _ w' hS'
   simp only [List.set] at hS'
   clear hS;have hS:=hS';clear hS'
   refine ⟨(hS.sub (.cons_cons _ (xh2 _))),?_⟩
   have hH:St nF w w' [.blk g14 [.int .i64 0,.int .i64 0]]:=hS.sub (.cons_cons _ (xh2 _))
   ((with_reducible apply j7 (nn 4) b8);rfl;kernel_rfl;exact (fun _ _ _ h=>h);exact hH;rfl;rfl)
   refine m5 (i:=5) (by kernel_rfl) ?_
   refine m9 (Φ:=fun _ w'=>St _ _ w' _) rfl (l9 hS b8 (i:=1) rfl rfl rfl rfl rfl (xg4 rfl) (xc7.1 rfl)) ?_
   intro _ w' hS'
   simp only [List.set] at hS'
   clear hS;have hS:=hS';clear hS'
   refine ⟨(hS.sub (.cons_cons _ (xh2 _))),?_⟩
   have hH:St nF w w' [.blk g14 [.int .i64 0,.int .i64 0]]:=hS.sub (.cons_cons _ (xh2 _))
   ((with_reducible apply j7 (nn 6) b8);rfl;kernel_rfl;exact (fun _ _ _ h=>h);exact hH;rfl;rfl)
   refine t7 (by kernel_rfl) ?_
   repeat' ((refine yDn (by with_reducible constructor) ?_))
   (apply a5p)
   (repeat (first|exact ResL.nil|(apply ResL.tmp;rfl)|(apply ResL.cell;rfl;(((with_reducible apply Loads.st b8);rfl;(first|exact hS.blkR 1 rfl|exact hS.blkR 2 rfl);rfl)))))
   obtain ⟨v1,v2,v3,v4⟩:=b1H he hw (addr:=addr)
   refine ⟨kv0,?_,?_,xd6 ⟨rfl,hS.sub (xh2 _)⟩⟩
   ·rw [v1,v2,v3];rfl
   ·rw [v4];rfl
  ·have hd:decide (way=1)=false:=xh9 hw
   repeat' (first|((with_reducible apply b9 b8);rfl;rfl;rfl)|refine yDn (by with_reducible constructor) ?_|((with_reducible apply k6);(iterate 4 rfl);(rfl))|((with_reducible apply f9);rfl;((rfl));rfl;rfl)|((with_reducible apply e8);rfl;(rfl))|((with_reducible apply f8);rfl;(assumption))|((with_reducible apply d6 hS b8);rfl;rfl;rfl;clear hS;intro g w' hS)|((with_reducible apply d5 hS b8 (i:=0));(iterate 8 rfl);((exact (rfl:_=[_,_])));clear hS;intro w' hS;simp only [List.set] at hS)|((with_reducible apply a2y (by kernel_rfl));rfl;rfl;rfl))
   rename Nat=>g14
   refine a12 (fun w'=>St nF w w' [.blk g14 [.int .i64 (r5 (j9 K space.toNat) addr size way).1,.int .i64 (r5 (j9 K space.toNat) addr size way).2]]) 7 rfl hS (by kernel_rfl) ?_
   intro w1 hS'
   clear hS;have hS:=hS';clear hS'
   have hH:St nF w w1 [.blk g14 [.int .i64 (r5 (j9 K space.toNat) addr size way).1,.int .i64 (r5 (j9 K space.toNat) addr size way).2]]:=hS.sub (.cons_cons _ (xh2 _))
   ((with_reducible apply v9 (nn 0) b8);rfl;kernel_rfl;kernel_rfl;kernel_rfl;exact (fun _ _ _ _ h=>h);exact hH;rfl;rfl;((exact (rfl:_=some [_,_,_,_,_])));rfl)
   ((with_reducible apply o9 (nn 1));rfl;kernel_rfl;exact (fun _ _ _ h=>h);exact hH;rfl;(intro wd hd;replace hd:St _ _ wd _:=hd;(((with_reducible apply Loads.st b8);rfl;((exact hd.blkR 0 rfl));rfl)));rfl)
   ((with_reducible apply j7 (nn 2) b8);rfl;kernel_rfl;exact (fun _ _ _ h=>h);exact hH;rfl;rfl)
   refine m5 (i:=3) (by kernel_rfl) ?_
   refine m9 (Φ:=fun _ w'=>St _ _ w' _) rfl (l9 hS b8 (i:=2) rfl rfl rfl rfl rfl (xg4 rfl) (xc7.1 rfl)) ?_
   intro _ w' hS'
   simp only [List.set] at hS'
   clear hS;have hS:=hS';clear hS'
   refine ⟨(hS.sub (.cons_cons _ (xh2 _))),?_⟩
   have hH:St nF w w' [.blk g14 [.int .i64 (r5 (j9 K space.toNat) addr size way).1,.int .i64 (r5 (j9 K space.toNat) addr size way).2]]:=hS.sub (.cons_cons _ (xh2 _))
   ((with_reducible apply j7 (nn 4) b8);rfl;kernel_rfl;exact (fun _ _ _ h=>h);exact hH;rfl;rfl)
   refine m5 (i:=5) (by kernel_rfl) ?_
   refine m9 (Φ:=fun _ w'=>St _ _ w' _) rfl (l9 hS b8 (i:=1) rfl rfl rfl rfl rfl (xg4 rfl) (xc7.1 rfl)) ?_
   intro _ w' hS'
   simp only [List.set] at hS'
   clear hS;have hS:=hS';clear hS'
   refine ⟨(hS.sub (.cons_cons _ (xh2 _))),?_⟩
   have hH:St nF w w' [.blk g14 [.int .i64 (r5 (j9 K space.toNat) addr size way).1,.int .i64 (r5 (j9 K space.toNat) addr size way).2]]:=hS.sub (.cons_cons _ (xh2 _))
   ((with_reducible apply j7 (nn 6) b8);rfl;kernel_rfl;exact (fun _ _ _ h=>h);exact hH;rfl;rfl)
   refine t7 (by kernel_rfl) ?_
   repeat' ((refine yDn (by with_reducible constructor) ?_))
   (apply a5p)
   (repeat (first|exact ResL.nil|(apply ResL.tmp;rfl)|(apply ResL.cell;rfl;(((with_reducible apply Loads.st b8);rfl;(first|exact hS.blkR 1 rfl|exact hS.blkR 2 rfl);rfl)))))
   obtain ⟨v1,v2,v3,v4⟩:=b5i he hf hw
   refine ⟨kv0,?_,?_,xd6 ⟨rfl,hS.sub (xh2 _)⟩⟩
   ·rw [v1,v2,v3];rfl
   ·rw [v4];rfl
 ·have hkv:KerV w2 k':=(WkV.own (Γ:=[]) (by rw [List.append_nil];exact hS')).ker
  obtain ⟨hr0,hs1,hs8,-,ha1,ha2,hat⟩:=a6x he hsp (by rw [hsp] at hf;exact hf)
  replace hS:=hS.trans hS'
  clear hS' hre
  replace hS:=hS.perm xi2
  dsimp only [List.cons_append,List.nil_append] at hS
  by_cases hw:way=1
  ·have hd:decide (way=1)=true:=xi0 hw
   repeat' (first|((with_reducible apply b9 b8);rfl;rfl;rfl)|((with_reducible apply l4 b8);rfl;rfl;((exact (rfl:_=some [_,_])));rfl)|refine yDn (by with_reducible constructor) ?_|((with_reducible apply k6);(iterate 4 rfl);(rfl))|((with_reducible apply f9);rfl;((rfl));rfl;rfl)|((with_reducible apply e8);rfl;first|rfl|assumption)|((with_reducible apply d6 hS b8);rfl;rfl;rfl;clear hS;intro g w' hS)|((with_reducible apply d5 hS b8 (i:=0));(iterate 8 rfl);((exact (rfl:_=[_,_])));clear hS;intro w' hS;simp only [List.set] at hS)|((with_reducible apply a2y (by kernel_rfl));rfl;rfl;rfl))
   rename Nat=>g14
   refine a12 (fun w'=>St nF w w' [.blk g14 [.int .i64 0,.int .i64 0]]) 7 rfl hS (by kernel_rfl) ?_
   intro w1 hS'
   clear hS;have hS:=hS';clear hS'
   have hH:St nF w w1 [.blk g14 [.int .i64 0,.int .i64 0]]:=hS.sub (.cons_cons _ (xh2 _))
   ((with_reducible apply v9 (nn 0) b8);rfl;kernel_rfl;kernel_rfl;kernel_rfl;exact (fun _ _ _ _ h=>h);exact hH;rfl;rfl;((exact (rfl:_=some [_,_,_,_,_])));rfl)
   ((with_reducible apply o9 (nn 1));rfl;kernel_rfl;exact (fun _ _ _ h=>h);exact hH;rfl;(intro wd hd;replace hd:St _ _ wd _:=hd;(((with_reducible apply Loads.st b8);rfl;((exact hd.blkR 0 rfl));rfl)));rfl)
   ((with_reducible apply j7 (nn 2) b8);rfl;kernel_rfl;exact (fun _ _ _ h=>h);exact hH;rfl;rfl)
   refine m5 (i:=3) (by kernel_rfl) ?_
   refine m9 (Φ:=fun _ w'=>St _ _ w' _) rfl (l9 hS b8 (i:=2) rfl rfl rfl rfl rfl (xg4 rfl) (xc7.1 rfl)) ?_
   intro _ w' hS'
   simp only [List.set] at hS'
   clear hS;have hS:=hS';clear hS'
   refine ⟨(hS.sub (.cons_cons _ (xh2 _))),?_⟩
   have hH:St nF w w' [.blk g14 [.int .i64 0,.int .i64 0]]:=hS.sub (.cons_cons _ (xh2 _))
   ((with_reducible apply j7 (nn 4) b8);rfl;kernel_rfl;exact (fun _ _ _ h=>h);exact hH;rfl;rfl)
   refine m5 (i:=5) (by kernel_rfl) ?_
   refine m9 (Φ:=fun _ w'=>St _ _ w' _) rfl (l9 hS b8 (i:=1) rfl rfl rfl rfl rfl (xg4 rfl) (xc7.1 rfl)) ?_
   intro _ w' hS'
   simp only [List.set] at hS'
   clear hS;have hS:=hS';clear hS'
   refine ⟨(hS.sub (.cons_cons _ (xh2 _))),?_⟩
   have hH:St nF w w' [.blk g14 [.int .i64 0,.int .i64 0]]:=hS.sub (.cons_cons _ (xh2 _))
   ((with_reducible apply j7 (nn 6) b8);rfl;kernel_rfl;exact (fun _ _ _ h=>h);exact hH;rfl;rfl)
   refine t7 (by kernel_rfl) ?_
   repeat' ((refine yDn (by with_reducible constructor) ?_))
   (apply a5p)
   (repeat (first|exact ResL.nil|(apply ResL.tmp;rfl)|(apply ResL.cell;rfl;(((with_reducible apply Loads.st b8);rfl;(first|exact hS.blkR 1 rfl|exact hS.blkR 2 rfl);rfl)))))
   obtain ⟨v1,v2,v3,v4⟩:=b1H he hw (addr:=addr)
   refine ⟨kv0,?_,?_,xd6 ⟨rfl,hS.sub (xh2 _)⟩⟩
   ·rw [v1,v2,v3];rfl
   ·rw [v4];rfl
  have hd:decide (way=1)=false:=xh9 hw
  rw [hd] at hk'
  obtain ⟨hrt,hsm,hpres⟩:=a5o hr0 (sp:=sp) (by omega) hs1 hs8 hat false
  obtain ⟨a,rfl⟩:∃ a:Nat,addr=(a:Nat):=⟨addr.toNat,by omega⟩
  obtain ⟨n,rfl⟩:∃ n:Nat,size=(n:Nat):=⟨size.toNat,by omega⟩
  rw [<- hk'] at hrt hpres hsm
  obtain ⟨x,hx,-⟩:=a74 (k:=k') (sp:=sp) (page:=((a:Nat) + (0:Int)) / 16) ((hat 0 (by omega) (by omega)).same hsm.ar hsm.live)
  repeat' (first|((with_reducible apply b9 b8);rfl;rfl;rfl)|refine yDn (by with_reducible constructor) ?_|((with_reducible apply k6);(iterate 4 rfl);(rfl))|((with_reducible apply f9);rfl;((rfl));rfl;rfl)|((with_reducible apply f8);rfl;first|rfl|assumption)|((with_reducible apply d6 hS b8);rfl;rfl;rfl;clear hS;intro g w' hS)|((with_reducible apply d5 hS b8 (i:=0));(iterate 8 rfl);(first|exact (rfl:_=[_])|exact (rfl:_=[_,_]));clear hS;intro w' hS;simp only [List.set] at hS)|((with_reducible apply a2y (by kernel_rfl));rfl;rfl;rfl)|((with_reducible apply a6z hS b8 (m:=n));(iterate 5 rfl);omega;omega;rfl;rfl;intro gr w' hS';clear hS;have hS:=hS';clear hS'))
  rename_i g15 _ _ _ _
  have e0:List.replicate n [Value.int .u8 0]=bR (ldL k'.K sp a n 0):=by
   unfold ldL bR
   rw [xh4,List.nil_append,xi1]
   rfl
  rw [e0] at hS
  replace hS:=hS.perm perm6
  have hea:=b4v hS (KRo.ownG hS) hrt hx (by omega) (by omega) (fun i hi=>hpres (i:Nat) (by omega) (by omega))
  refine x8 (first:=[]) (caps:=[]) rfl rfl hea rfl ?_
  clear hea
  rintro _ w3 ⟨rfl,h3⟩
  replace hS:=(St.transM (Δ:=.row _ _ _ _::.blk _ _::wkS gw k' sp vh held) hS h3).perm perm6.symm
  clear h3
  have e1:ldL k'.K sp a n n=a3R k'.K sp (a:Nat) n:=by
   unfold ldL
   rw [xf8,List.replicate_zero,List.append_nil,xa0 (by rw [a32];omega)]
  rw [e1] at hS
  have e2:(a3R k'.K sp (a:Nat) n).length=n:=a32
  generalize hD:a3R k'.K sp (a:Nat) n=D at hS e2
  obtain ⟨sh',fr',sl',sps',hand',vsh',vfr',vsl',vsp'⟩:=k'
  obtain ⟨m1,m2,m3,m4,-⟩:=hkv
  dsimp only at m1 m2 m3 m4
  obtain ⟨q1,d1,rfl⟩:=m1.sl.len
  obtain ⟨q2,d2,rfl⟩:=m2.len
  obtain ⟨q3,d3,rfl⟩:=m3.len
  obtain ⟨q4,d4,rfl⟩:=m4.len
  repeat' ((refine yDn (by with_reducible constructor) ?_))
  unfold wkS at hS
  dsimp only [List.cons_append] at hS
  have hlH:∀ w',St nF w w' [.blk g [.slice (some ⟨gr,0,none⟩) n n],.row 5 1 (.slice (some ⟨gr,0,none⟩) n n) (bR D),.blk g15 [.int .i64 0,.int .i64 0],.blk gw [.slice q1 sh'.length d1,.slice q2 fr'.length d2,.slice q3 sl'.length d3,.slice q4 sps'.length d4,.int .i64 hand',.int .i64 (sp:Nat),vh]]->St nF w w' [.blk g [.slice (some ⟨gr,0,none⟩) n n],.row 5 1 (.slice (some ⟨gr,0,none⟩) n n) (bR D),.blk g15 [.int .i64 0,.int .i64 0],.blk gw [.slice q1 sh'.length d1,.slice q2 fr'.length d2,.slice q3 sl'.length d3,.slice q4 sps'.length d4,.int .i64 hand',.int .i64 (sp:Nat),vh]]:=fun _ h=>h
  refine a12 (fun w'=>St nF w w' [.blk g [.slice (some ⟨gr,0,none⟩) n n],.row 5 1 (.slice (some ⟨gr,0,none⟩) n n) (bR D),.blk g15 [.int .i64 0,.int .i64 0],.blk gw [.slice q1 sh'.length d1,.slice q2 fr'.length d2,.slice q3 sl'.length d3,.slice q4 sps'.length d4,.int .i64 hand',.int .i64 (sp:Nat),vh]]) 12 rfl hS (by kernel_rfl) ?_
  intro w1 hS'
  clear hS;have hS:=hS';clear hS'
  have hH:=hlH _ (hS.sub (.cons_cons _ (.cons_cons _ (.cons_cons _ (.cons _ (.cons _ (.cons _ (.cons_cons _ (xh2 _)))))))))
  ((with_reducible apply j7 (nn 0) b8);rfl;kernel_rfl;exact (fun _ _ _ h=>h);exact hH;rfl;rfl)
  ((with_reducible apply j7 (nn 1) b8);rfl;kernel_rfl;exact (fun _ _ _ h=>h);exact hH;rfl;rfl)
  ((with_reducible apply j7 (nn 2) b8);rfl;kernel_rfl;exact (fun _ _ _ h=>h);exact hH;rfl;rfl)
  ((with_reducible apply a4Y (nn 3));rfl;kernel_rfl;kernel_rfl;kernel_rfl;exact (fun _ _ _ h=>h);exact hH;rfl;(intro wd hd;replace hd:St _ _ wd _:=hd;((with_reducible apply Loads.st b8);rfl;exact (hd.blkRk 3 0 5 rfl);rfl));rfl)
  ((with_reducible apply o9 (nn 4));rfl;kernel_rfl;exact (fun _ _ _ h=>h);exact hH;rfl;(intro wd hd;replace hd:St _ _ wd _:=hd;(((with_reducible apply Loads.sl b8);rfl;((exact hd.blkC 0 rfl rfl)))));rfl)
  ((with_reducible apply b6c 1 5);rfl;kernel_rfl;kernel_rfl;kernel_rfl;exact (fun _ _ _ h=>h);exact hH;exact b8;(iterate 4 rfl);exact hlH;rfl;omega;rfl)
  ((with_reducible apply o9 (nn 6));rfl;kernel_rfl;exact (fun _ _ _ h=>h);exact hH;rfl;(intro wd hd;replace hd:St _ _ wd _:=hd;(((with_reducible apply Loads.st b8);rfl;((exact hd.blkR 2 rfl));rfl)));rfl)
  ((with_reducible apply j7 (nn 7) b8);rfl;kernel_rfl;exact (fun _ _ _ h=>h);exact hH;rfl;rfl)
  refine m5 (i:=8) (by kernel_rfl) ?_
  simp only [xh3,xh4,xk5]
  refine m9 (Φ:=fun _ w'=>St _ _ w' _) rfl (l9 hS b8 (i:=4) rfl rfl rfl rfl rfl (xg4 rfl) (xc7.1 rfl)) ?_
  intro _ w' hS'
  simp only [List.set] at hS'
  clear hS;have hS:=hS';clear hS'
  refine ⟨hlH _ (hS.sub (.cons_cons _ (.cons_cons _ (.cons_cons _ (.cons _ (.cons _ (.cons _ (.cons_cons _ (xh2 _))))))))),?_⟩
  have hH:=hlH _ (hS.sub (.cons_cons _ (.cons_cons _ (.cons_cons _ (.cons _ (.cons _ (.cons _ (.cons_cons _ (xh2 _)))))))))
  ((with_reducible apply j7 (nn 9) b8);rfl;kernel_rfl;exact (fun _ _ _ h=>h);exact hH;rfl;rfl)
  refine m5 (i:=10) (by kernel_rfl) ?_
  refine m9 (Φ:=fun _ w'=>St _ _ w' _) rfl (l9 hS b8 (i:=3) rfl rfl rfl rfl rfl (xg4 rfl) (xc7.1 rfl)) ?_
  intro _ w' hS'
  simp only [List.set] at hS'
  clear hS;have hS:=hS';clear hS'
  refine ⟨hlH _ (hS.sub (.cons_cons _ (.cons_cons _ (.cons_cons _ (.cons _ (.cons _ (.cons _ (.cons_cons _ (xh2 _))))))))),?_⟩
  have hH:=hlH _ (hS.sub (.cons_cons _ (.cons_cons _ (.cons_cons _ (.cons _ (.cons _ (.cons _ (.cons_cons _ (xh2 _)))))))))
  ((with_reducible apply j7 (nn 11) b8);rfl;kernel_rfl;exact (fun _ _ _ h=>h);exact hH;rfl;rfl)
  refine t7 (by kernel_rfl) ?_
  repeat' ((refine yDn (by with_reducible constructor) ?_))
  (apply a5p)
  (repeat (first|exact ResL.nil|(apply ResL.tmp;rfl)|(apply ResL.cell;rfl;(((with_reducible apply Loads.st b8);rfl;(first|exact hS.blkR 3 rfl|exact hS.blkR 4 rfl);rfl)))))
  have hok:okL K space (a:Nat) (n:Nat) way:=⟨⟨he,hf⟩,hw⟩
  obtain ⟨v1,v2,v3,v4⟩:=b5U hok
  refine ⟨⟨sh',fr',sl',sps',hand',.slice q1 sh'.length d1,.slice q2 fr'.length d2,.slice q3 sl'.length d3,.slice q4 sps'.length d4⟩,?_,?_,?_⟩
  ·rw [v1,v2,v3,hsp,xa9,<- hk',xa9,hD]
   rfl
  ·rw [hk',v4,hsp];rfl
  ·refine b1I (Γ:=[]) (g:=gw) (sp:=sp) (vh:=vh) (held:=held) ?_
   rw [List.append_nil]
   exact hS.sub (.cons _ (.cons _ (.cons _ (.cons _ (.cons _ (.cons _ (.refl _)))))))
def a4S (K:Ker) (space page:Int):Int:=if a0h K space=0 then (if (m7 (j9 K space.toNat) page).isSome=true then 0 else 6) else a0h K space
def a6A (K:Ker) (space page:Int):List UInt8:=if a4S K space page=0 then t9 K space.toNat page else []
theorem a4r {K:Ker} {space:Int} (h:a0h K space=0):Right K/\∃ sp:Nat,space=(sp:Nat)/\sp < K.spaces.length/\(a0o K sp).live=true:=by
 unfold a0h at h
 by_cases h3:a1b K=0
 ·rw [xf0 h3] at h
  by_cases h4:0<=space/\space < (K.spaces.length:Int)/\(a0o K space.toNat).live=true
  ·exact ⟨a3Z.1 h3,space.toNat,by omega,by omega,h4.2.2⟩
  ·rw [xf1 h4] at h;cases h
 ·rw [xf1 h3] at h;exact absurd h h3
theorem b1x {w:World} {k:KV} (hK:KerV w k) (space page:Int):Fn Tryz.prog 29 [.agg (kvC k).toArray,.int .i64 space,.int .i64 page] w (RBf (.tuple #[.string ⟨(a6A k.K space page).toArray⟩,.int .i64 (a4S k.K space page)]) w):=by
 have hbeg:=fun w1 (h:KerV w1 k)=>a63 h space
 have hK0:=hK
 obtain ⟨RE,hRE⟩:∃ e,e=a4S k.K space page:=⟨_,rfl⟩
 unfold a6A
 rw [<- hRE]
 unfold a4S at hRE
 obtain ⟨sh,fr,sl,sps,hand,vsh,vfr,vsl,vsp⟩:=k
 obtain ⟨k1,k2,k3,k4,k5⟩:=hK
 dsimp only at k1 k2 k3 k4 k5
 obtain ⟨p1,c1,rfl⟩:=k1.sl.len
 obtain ⟨p2,c2,rfl⟩:=k2.len
 obtain ⟨p3,c3,rfl⟩:=k3.len
 obtain ⟨p4,c4,rfl⟩:=k4.len
 generalize hKK:KV.K ⟨sh,fr,sl,sps,hand,.slice p1 sh.length c1,.slice p2 fr.length c2,.slice p3 sl.length c3,.slice p4 sps.length c4⟩=K at hbeg hRE |-
 have hpre:∀ w1 Γ1,St nF w w1 Γ1->KerV w1 ⟨sh,fr,sl,sps,hand,.slice p1 sh.length c1,.slice p2 fr.length c2,.slice p3 sl.length c3,.slice p4 sps.length c4⟩:=fun w1 Γ1 h=>hK0.now h
 unfold kvC at hbeg |-
 dsimp only at hbeg |-
 refine yEn Tryz.func29 Tryz.ntmps29 (by kernel_rfl) (by kernel_rfl) rfl rfl ?_
 have hS:=St.start w
 repeat' (first|((with_reducible apply b9 b8);rfl;rfl;rfl)|((with_reducible apply c9);rfl;(((with_reducible apply Loads.st b8);rfl;((exact hS.blkR 0 rfl));rfl));rfl)|refine yDn (by with_reducible constructor) ?_|((with_reducible apply k7 hS);rfl;rfl;rfl;clear hS;intro g w' hS))
 refine x8 rfl rfl (hbeg _ (hpre _ _ hS)) rfl ?_
 clear hbeg
 rintro v w2 (⟨he,rfl,hS'⟩|⟨gw,sp,k',he,hsp,rfl,hk',hS'⟩)
 ·replace hS:=hS.transA hS'
  simp only [x9] at hS
  rw [xf1 he] at hRE
  have hd:decide (a0h K space=0)=false:=xh9 he
  rw [<- hRE] at he hd |-
  rw [xf1 he]
  repeat' (first|((with_reducible apply b9 b8);rfl;rfl;rfl)|refine yDn (by with_reducible constructor) ?_|((with_reducible apply a0B);rfl;all_goals (intro hb hp;try (exfalso;omega))))
  (refine a2L rfl ?_)
  exact ⟨rfl,hS.sub (xh2 _)⟩
 rw [xf0 he] at hRE
 obtain ⟨hr,sp2,hsp2,hspl,hlv⟩:=a4r he
 obtain rfl:sp=sp2:=by omega
 replace hS:=hS.trans hS'
 clear hS'
 rw [xg2] at hS
 subst hsp
 rw [xa9] at hRE |-
 clear hKK hpre hK0 k1 k2 k3 k4 k5
 subst hk'
 obtain ⟨x,hx⟩:∃ x,k'.sp[sp]?=some x:=by
  have:k'.K.spaces.length=k'.sp.length:=xh1 _
  exact i9 (by omega)
 have hxm:=xd0 hx
 obtain ⟨hsc,hel⟩:=a0j hr x.s (xd0 (a1h hx))
 have hxA:j9 k'.K sp=x.s.areas:=by unfold j9;rw [a0k (a1h hx)]
 have hxe:j5 k'.K sp=x.s.entries:=by unfold j5;rw [a0k (a1h hx)]
 rw [hxA] at hRE
 have hV0:=WkV.own hS
 obtain ⟨bs,os,cs,hvsp⟩:=hV0.ker.sp.form1 hx
 obtain ⟨f0,hf0⟩:∃ f0,k'.fr[0]?=some f0:=i9 (by have:=hr.cnt.1;have h9:k'.K.frames.length=k'.fr.length:=rfl;omega)
 obtain ⟨bf,of_,cf,hvfr⟩:=hV0.ker.fr.form1 hf0
 obtain ⟨psl,csl,hvsl⟩:=hV0.ker.sl.len
 have hxv:=hV0.ker.spv x hxm
 obtain ⟨sh',fr',sl',sps',hand',vsh',vfr',vsl',vsp'⟩:=k'
 dsimp only at hvsp hvfr hvsl hx hxm hf0
 subst hvsp hvfr hvsl
 have hrowS:=d9 (f:=spC) hx
 unfold spC at hrowS
 have hspc:=fun w1 Γ1 (h:St nF w w1 (wkS gw (⟨sh',fr',sl',sps',hand',vsh',.slice (some ⟨bf,of_,none⟩) fr'.length cf,.slice psl sl'.length csl,.slice (some ⟨bs,os,none⟩) sps'.length cs⟩:KV) sp (.slice none 0 0) []++(y8 (⟨sh',fr',sl',sps',hand',vsh',.slice (some ⟨bf,of_,none⟩) fr'.length cf,.slice psl sl'.length csl,.slice (some ⟨bs,os,none⟩) sps'.length cs⟩:KV)++Γ1)))=>a2l (WkV.own h) (e6 hx)
 have hspV:=fun w1 Γ1 (h:St nF w w1 (wkS gw (⟨sh',fr',sl',sps',hand',vsh',.slice (some ⟨bf,of_,none⟩) fr'.length cf,.slice psl sl'.length csl,.slice (some ⟨bs,os,none⟩) sps'.length cs⟩:KV) sp (.slice none 0 0) []++(y8 (⟨sh',fr',sl',sps',hand',vsh',.slice (some ⟨bf,of_,none⟩) fr'.length cf,.slice psl sl'.length csl,.slice (some ⟨bs,os,none⟩) sps'.length cs⟩:KV)++Γ1)))=>(WkV.own h).ker.sp
 have hfnd:=fun w1 Γ1 (h:St nF w w1 (wkS gw (⟨sh',fr',sl',sps',hand',vsh',.slice (some ⟨bf,of_,none⟩) fr'.length cf,.slice psl sl'.length csl,.slice (some ⟨bs,os,none⟩) sps'.length cs⟩:KV) sp (.slice none 0 0) []++(y8 (⟨sh',fr',sl',sps',hand',vsh',.slice (some ⟨bf,of_,none⟩) fr'.length cf,.slice psl sl'.length csl,.slice (some ⟨bs,os,none⟩) sps'.length cs⟩:KV)++Γ1)))=>a4U page ((WkV.own h).ker.spv x hxm).ar
 unfold a1T at hspc
 dsimp only at hspc hspV
 rw [a1J hsc.ar] at hfnd
 unfold a1z at hfnd
 cases hfa:m7 x.s.areas page with
 |none=>
  rw [hfa] at hRE hfnd
  dsimp only [Option.getD,Option.isSome] at hfnd hRE
  have hRE2:RE=6:=hRE
  rw [hRE2]
  repeat' (first|((with_reducible apply b9 b8);rfl;rfl;rfl)|refine yDn (by with_reducible constructor) ?_|((with_reducible apply e8);rfl;(rfl))|((with_reducible apply f8);rfl;(rfl))|((with_reducible apply d6 hS b8);rfl;rfl;rfl;clear hS;intro g w' hS)|((with_reducible apply d5 hS b8 (i:=0));(iterate 8 rfl);((exact (rfl:_=[_,_,_,_])));clear hS;intro w' hS;simp only [List.set] at hS)|((with_reducible apply d7 hS);rfl;rfl;rfl;refine ⟨_,hspc _ _ hS,?_⟩;clear hS;intro w' hS)|(((with_reducible apply y0 b8);rfl;rfl;rfl;refine ⟨_,(hspV _ _ hS).cel hrowS rfl,?_⟩))|((with_reducible apply d7 hS);rfl;rfl;rfl;refine ⟨_,hfnd _ _ hS,?_⟩;clear hS;intro w' hS))
  (refine a2L rfl ?_)
  exact ⟨rfl,hS.sub (xh2 _)⟩
 |some a=>
  rw [hfa] at hRE hfnd
  dsimp only [Option.getD,Option.isSome] at hfnd hRE
  have hRE2:RE=0:=hRE
  rw [hRE2,xf0 rfl]
  unfold arC at hfnd
  have hpg:=a55 hsc.ar (p:=page) (by rw [hfa];rfl)
  have hent:=fun w1 Γ1 (h:St nF w w1 (wkS gw (⟨sh',fr',sl',sps',hand',vsh',.slice (some ⟨bf,of_,none⟩) fr'.length cf,.slice psl sl'.length csl,.slice (some ⟨bs,os,none⟩) sps'.length cs⟩:KV) sp (.slice none 0 0) []++(y8 (⟨sh',fr',sl',sps',hand',vsh',.slice (some ⟨bf,of_,none⟩) fr'.length cf,.slice psl sl'.length csl,.slice (some ⟨bs,os,none⟩) sps'.length cs⟩:KV)++Γ1)))=>a2j (WkV.own h) hx page hsc.rises (a3V hsc (by omega))
  obtain ⟨pt,is,hEV,hcase⟩:=a4W (page:=page) hsc.rises hxv.en
  rw [hEV] at hent
  rcases hcase with ⟨rfl,rfl,he2⟩|⟨rfl,e,b,off,c,i,he2,hve,hei,rfl⟩
  ·obtain ⟨d,d1,d2,d3⟩:=a4Z hr (sp:=sp) (page:=page) ⟨hlv,by rw [hxA,hfa];rfl⟩
   have hz:zAt (⟨sh',fr',sl',sps',hand',vsh',.slice (some ⟨bf,of_,none⟩) fr'.length cf,.slice psl sl'.length csl,.slice (some ⟨bs,os,none⟩) sps'.length cs⟩:KV).K sp page=a.z:=by unfold zAt;rw [hxA,hfa];rfl
   rw [hz] at d1
   have hfil:=fun w1 Γ1 (h:St nF w w1 (wkS gw (⟨sh',fr',sl',sps',hand',vsh',.slice (some ⟨bf,of_,none⟩) fr'.length cf,.slice psl sl'.length csl,.slice (some ⟨bs,os,none⟩) sps'.length cs⟩:KV) sp (.slice none 0 0) []++(y8 (⟨sh',fr',sl',sps',hand',vsh',.slice (some ⟨bf,of_,none⟩) fr'.length cf,.slice psl sl'.length csl,.slice (some ⟨bs,os,none⟩) sps'.length cs⟩:KV)++Γ1)))=>a3d (F:=nF) (a:=a) (p:=page) (WkV.own h).c0 (WkV.own h).ker.sh hr.rise (by omega)
   have hdd:a0I (shs sh') a.z page=some d:=d1
   rw [hdd] at hfil
   unfold a7J at hfil
   dsimp only [Option.getD,Option.isSome] at hfil
   unfold arC at hfil
   have hpk:t9 (⟨sh',fr',sl',sps',hand',vsh',.slice (some ⟨bf,of_,none⟩) fr'.length cf,.slice psl sl'.length csl,.slice (some ⟨bs,os,none⟩) sps'.length cs⟩:KV).K sp page=d:=by unfold t9;rw [hxe,he2];exact d3
   rw [hpk]
   repeat' (first|((with_reducible apply b9 b8);rfl;rfl;rfl)|refine yDn (by with_reducible constructor) ?_|((with_reducible apply e8);rfl;(rfl))|((with_reducible apply f8);rfl;(rfl))|((with_reducible apply d6 hS b8);rfl;rfl;rfl;clear hS;intro g w' hS)|((with_reducible apply d5 hS b8 (i:=0));(iterate 8 rfl);((exact (rfl:_=[_,_,_,_])));clear hS;intro w' hS;simp only [List.set] at hS)|((with_reducible apply d7 hS);rfl;rfl;rfl;refine ⟨_,hspc _ _ hS,?_⟩;clear hS;intro w' hS)|(((with_reducible apply y0 b8);rfl;rfl;rfl;refine ⟨_,(hspV _ _ hS).cel hrowS rfl,?_⟩))|((with_reducible apply d7 hS);rfl;rfl;rfl;refine ⟨_,hfnd _ _ hS,?_⟩;clear hS;intro w' hS)|((with_reducible apply d7 hS);rfl;rfl;rfl;refine ⟨_,hent _ _ hS.drop,?_⟩;clear hS;intro w' hS))
   (focus ((with_reducible apply e7 _ _ _ (by kernel_rfl) (by kernel_rfl) hS);(repeat' (first|(first|((with_reducible apply j3 b8);rfl;rfl)|((with_reducible apply j0);rfl;(intro wd hd;replace hd:St _ _ wd _:=hd;(((with_reducible apply Loads.st b8);rfl;((exact hd.blkR 0 rfl));rfl)));rfl))|((with_reducible apply o6);rfl;rfl;rfl;refine ⟨_,fun wd hd=>hfil _ _ hd.drop,?_⟩)));all_goals ((with_reducible apply k8);intro w' hS';clear hS;have hS:=hS';clear hS')))
   repeat' (first|((with_reducible apply b9 b8);rfl;rfl;rfl)|refine yDn (by with_reducible constructor) ?_)
   (refine a2L rfl ?_)
   exact ⟨rfl,hS.sub (xh2 _)⟩
  ·obtain ⟨hep,hnm,-⟩:=a2Y hr (sp:=sp) (p:=page) (e:=e) (by rw [hxe];exact he2)
   have hrowE:=d9 (f:=enC) hei
   have hentV:=fun w1 Γ1 (h:St nF w w1 (wkS gw (⟨sh',fr',sl',sps',hand',vsh',.slice (some ⟨bf,of_,none⟩) fr'.length cf,.slice psl sl'.length csl,.slice (some ⟨bs,os,none⟩) sps'.length cs⟩:KV) sp (.slice none 0 0) []++(y8 (⟨sh',fr',sl',sps',hand',vsh',.slice (some ⟨bf,of_,none⟩) fr'.length cf,.slice psl sl'.length csl,.slice (some ⟨bs,os,none⟩) sps'.length cs⟩:KV)++Γ1)))=>((WkV.own h).ker.spv x hxm).en
   rw [hve] at hentV
   unfold enC at hrowE
   have hpk:t9 (⟨sh',fr',sl',sps',hand',vsh',.slice (some ⟨bf,of_,none⟩) fr'.length cf,.slice psl sl'.length csl,.slice (some ⟨bs,os,none⟩) sps'.length cs⟩:KV).K sp page=y6 (⟨sh',fr',sl',sps',hand',vsh',.slice (some ⟨bf,of_,none⟩) fr'.length cf,.slice psl sl'.length csl,.slice (some ⟨bs,os,none⟩) sps'.length cs⟩:KV).K e:=by unfold t9;rw [hxe,he2]
   rw [hpk]
   unfold y6
   have hfrV:=fun w1 Γ1 (h:St nF w w1 (wkS gw (⟨sh',fr',sl',sps',hand',vsh',.slice (some ⟨bf,of_,none⟩) fr'.length cf,.slice psl sl'.length csl,.slice (some ⟨bs,os,none⟩) sps'.length cs⟩:KV) sp (.slice none 0 0) []++(y8 (⟨sh',fr',sl',sps',hand',vsh',.slice (some ⟨bf,of_,none⟩) fr'.length cf,.slice psl sl'.length csl,.slice (some ⟨bs,os,none⟩) sps'.length cs⟩:KV)++Γ1)))=>(WkV.own h).ker.fr
   have hslV:=fun w1 Γ1 (h:St nF w w1 (wkS gw (⟨sh',fr',sl',sps',hand',vsh',.slice (some ⟨bf,of_,none⟩) fr'.length cf,.slice psl sl'.length csl,.slice (some ⟨bs,os,none⟩) sps'.length cs⟩:KV) sp (.slice none 0 0) []++(y8 (⟨sh',fr',sl',sps',hand',vsh',.slice (some ⟨bf,of_,none⟩) fr'.length cf,.slice psl sl'.length csl,.slice (some ⟨bs,os,none⟩) sps'.length cs⟩:KV)++Γ1)))=>(WkV.own h).ker.sl
   dsimp only at hfrV hslV
   rcases hnm with ⟨hk1,j,hj,hjl,-⟩|⟨hk2,j,hj,hjl,-⟩
   ·have hd1:decide (e.kind=1)=true:=xi0 hk1
    obtain ⟨epg,ekd,eat⟩:=e
    dsimp only at hj hk1 hep
    subst hj
    rw [xf0 hk1,xa9]
    have hjl':j < fr'.length:=hjl
    obtain ⟨s1,hs1⟩:=i9 (l:=fr') (i:=j) (by omega)
    rw [show (⟨sh',fr',sl',sps',hand',vsh',.slice (some ⟨bf,of_,none⟩) fr'.length cf,.slice psl sl'.length csl,.slice (some ⟨bs,os,none⟩) sps'.length cs⟩:KV).K.frames=fr' from rfl,n6 hs1]
    have hrowL:=d9 (f:=fmC) hs1
    unfold fmC at hrowL
    repeat' (first|((with_reducible apply b9 b8);rfl;rfl;rfl)|refine yDn (by with_reducible constructor) ?_|((with_reducible apply e8);rfl;(assumption))|((with_reducible apply f8);rfl;(rfl))|((with_reducible apply d6 hS b8);rfl;rfl;rfl;clear hS;intro g w' hS)|((with_reducible apply d5 hS b8 (i:=0));(iterate 8 rfl);((exact (rfl:_=[_,_,_,_])));clear hS;intro w' hS;simp only [List.set] at hS)|((with_reducible apply d7 hS);rfl;rfl;rfl;refine ⟨_,hspc _ _ hS,?_⟩;clear hS;intro w' hS)|(((with_reducible apply y0 b8);rfl;rfl;rfl;refine ⟨_,(hspV _ _ hS).cel hrowS rfl,?_⟩))|((with_reducible apply d7 hS);rfl;rfl;rfl;refine ⟨_,hfnd _ _ hS,?_⟩;clear hS;intro w' hS)|((with_reducible apply d7 hS);rfl;rfl;rfl;refine ⟨_,hent _ _ hS.drop,?_⟩;clear hS;intro w' hS)|(((with_reducible apply a4N b8);rfl;rfl;rfl;refine ⟨_,(hentV _ _ hS.drop).cel hrowE rfl,?_⟩)))
    (focus ((with_reducible apply e7 _ _ _ (by kernel_rfl) (by kernel_rfl) hS);(repeat' (first|(first|((with_reducible apply j3 b8);rfl;rfl)|((with_reducible apply j0);rfl;(intro wd hd;replace hd:St _ _ wd _:=hd;(((with_reducible apply Loads.sl b8);rfl;((exact hd.blkC 1 rfl rfl)))));rfl)|((with_reducible apply a0w b8);rfl;rfl;rfl;((rfl));((omega));rfl))|((with_reducible apply j0);rfl;(intro wd hd;replace hd:St _ _ wd _:=hd;(((with_reducible apply Loads.sc b8);rfl;exact (hentV _ _ hd.drop).cel hrowE rfl)));rfl)|((with_reducible apply j0);rfl;(intro wd hd;replace hd:St _ _ wd _:=hd;(((with_reducible apply Loads.sc b8);rfl;exact (hfrV _ _ hd.drop).cel0 hrowL rfl)));rfl)));all_goals ((with_reducible apply k8);intro w' hS';clear hS;have hS:=hS';clear hS')))
    repeat' ((refine yDn (by with_reducible constructor) ?_))
    (refine a2L rfl ?_)
    exact ⟨rfl,hS.sub (xh2 _)⟩
   ·have hd1:decide (e.kind=1)=false:=xh9 (by omega)
    obtain ⟨epg,ekd,eat⟩:=e
    dsimp only at hj hk2 hep
    subst hj
    rw [xf1 (show ¬ekd=1 by omega),xa9]
    have hjl':j < sl'.length:=hjl
    obtain ⟨s1,hs1⟩:=i9 (l:=sl') (i:=j) (by omega)
    rw [show (⟨sh',fr',sl',sps',hand',vsh',.slice (some ⟨bf,of_,none⟩) fr'.length cf,.slice psl sl'.length csl,.slice (some ⟨bs,os,none⟩) sps'.length cs⟩:KV).K.slots=sl' from rfl,a1f hs1]
    have hrowL:=d9 (f:=swC) hs1
    obtain ⟨bl,ol,cl,hfl⟩:=hV0.ker.sl.form1 hs1
    injection hfl with hfl1 hfl2 hfl3
    subst hfl1
    have hslV2:=fun w1 Γ1 (h:St nF w w1 (wkS gw (⟨sh',fr',sl',sps',hand',vsh',.slice (some ⟨bf,of_,none⟩) fr'.length cf,.slice (some ⟨bl,ol,none⟩) sl'.length csl,.slice (some ⟨bs,os,none⟩) sps'.length cs⟩:KV) sp (.slice none 0 0) []++(y8 (⟨sh',fr',sl',sps',hand',vsh',.slice (some ⟨bf,of_,none⟩) fr'.length cf,.slice (some ⟨bl,ol,none⟩) sl'.length csl,.slice (some ⟨bs,os,none⟩) sps'.length cs⟩:KV)++Γ1)))=>(WkV.own h).ker.sl
    unfold swC at hrowL
    repeat' (first|((with_reducible apply b9 b8);rfl;rfl;rfl)|refine yDn (by with_reducible constructor) ?_|((with_reducible apply f8);rfl;first|rfl|assumption)|((with_reducible apply d6 hS b8);rfl;rfl;rfl;clear hS;intro g w' hS)|((with_reducible apply d5 hS b8 (i:=0));(iterate 8 rfl);((exact (rfl:_=[_,_,_,_])));clear hS;intro w' hS;simp only [List.set] at hS)|((with_reducible apply d7 hS);rfl;rfl;rfl;refine ⟨_,hspc _ _ hS,?_⟩;clear hS;intro w' hS)|(((with_reducible apply y0 b8);rfl;rfl;rfl;refine ⟨_,(hspV _ _ hS).cel hrowS rfl,?_⟩))|((with_reducible apply d7 hS);rfl;rfl;rfl;refine ⟨_,hfnd _ _ hS,?_⟩;clear hS;intro w' hS)|((with_reducible apply d7 hS);rfl;rfl;rfl;refine ⟨_,hent _ _ hS.drop,?_⟩;clear hS;intro w' hS)|(((with_reducible apply a4N b8);rfl;rfl;rfl;refine ⟨_,(hentV _ _ hS.drop).cel hrowE rfl,?_⟩)))
    (focus ((with_reducible apply e7 _ _ _ (by kernel_rfl) (by kernel_rfl) hS);(repeat' (first|(first|((with_reducible apply j3 b8);rfl;rfl)|((with_reducible apply j0);rfl;(intro wd hd;replace hd:St _ _ wd _:=hd;(((with_reducible apply Loads.sl b8);rfl;((exact hd.blkC 1 rfl rfl)))));rfl)|((with_reducible apply a0w b8);rfl;rfl;rfl;((rfl));((omega));rfl))|((with_reducible apply j0);rfl;(intro wd hd;replace hd:St _ _ wd _:=hd;(((with_reducible apply Loads.sc b8);rfl;exact (hentV _ _ hd.drop).cel hrowE rfl)));rfl)|((with_reducible apply j0);rfl;(intro wd hd;replace hd:St _ _ wd _:=hd;(((with_reducible apply Loads.sc b8);rfl;exact (hslV2 _ _ hd.drop).cel0 hrowL rfl)));rfl)));all_goals ((with_reducible apply k8);intro w' hS';clear hS;have hS:=hS';clear hS')))
    repeat' ((refine yDn (by with_reducible constructor) ?_))
    (refine a2L rfl ?_)
    exact ⟨rfl,hS.sub (xh2 _)⟩
def b4x (A:List Ar) (L:List Sh) (en frames slots:Int):Int:=if a2e A L en=0 then (if frames < 3 then 9 else if 64 < frames\/slots < 0\/512 < slots then 3 else if slots < r9 A then 8 else 0) else a2e A L en
def b7o (A:List Ar) (L:List Sh) (en frames slots:Int):Ker:=if b4x A L en frames slots=0 then ⟨L,List.replicate frames.toNat fm0,List.replicate slots.toNat sw0,[⟨true,A,[]⟩],0⟩ else a8h
theorem b5B {w w':World} {k:KV} (h:St nF w w' (kA k)):Came w w' k:=xd3 (h.perm (b1t k))
def b4p (A:List Ar) (Lp:List (Sh×Value)) (va vs vF vS vP:Value) (nf ns:Nat):KV:=⟨Lp,List.replicate nf fm0,List.replicate ns sw0,[⟨⟨true,A,[]⟩,va,.slice none 0 0⟩],0,vs,vF,vS,vP⟩
theorem b7R {w:World} {A:List Ar} {Lp:List (Sh×Value)} {va vs vF vS vP:Value} {nf ns:Nat} (hA:Sl nF w 4 va (A.map arC)) (hL:ShsV w Lp vs) (h1:Sl nF w 4 vF (List.replicate nf [.string ⟨#[]⟩,.int .i64 0,.bool false,.bool false])) (h2:Sl nF w 2 vS (List.replicate ns [.string ⟨#[]⟩,.int .i64 0])) (h3:Sl nF w 3 vP [[.bool true,va,.slice none 0 0]]):KerV w (b4p A Lp va vs vF vS vP nf ns):=by
 refine ⟨hL,?_,?_,h3,fun p hp=>?_⟩
 ·show Sl nF w 4 vF ((List.replicate nf fm0).map fmC)
  rw [xi1];exact h1
 ·show Sl nF w 2 vS ((List.replicate ns sw0).map swC)
  rw [xi1];exact h2
 ·have:p=⟨⟨true,A,[]⟩,va,.slice none 0 0⟩:=xn1.1 hp
  subst this
  exact ⟨hA,Sl.nil0 w 3⟩
theorem b7O {A:List Ar} {Lp:List (Sh×Value)} {va vs vF vS vP:Value} {nf ns:Nat} (hA:A.length<=255) (hL:Lp.length<=255) (hx:∀ x ∈ Lp,x.1.fixes.length<=16) (h1:nf<=1000) (h2:ns<=1000):KBd (b4p A Lp va vs vF vS vP nf ns):=by
 refine ⟨?_,?_,?_,?_,fun x hxm=>?_,fun p hp=>?_,fun p hp=>?_⟩
 ·show (List.replicate nf fm0).length<=1000
  rw [xb0];omega
 ·show (List.replicate ns sw0).length<=1000
  rw [xb0];omega
 ·show Lp.length<=1000
  omega
 ·show 1<=1000
  omega
 ·have:=hx x hxm;omega
 ·have:p=⟨⟨true,A,[]⟩,va,.slice none 0 0⟩:=xn1.1 hp
  subst this
  show A.length<=1000
  omega
 ·have:p=⟨⟨true,A,[]⟩,va,.slice none 0 0⟩:=xn1.1 hp
  subst this
  show 0<=1000
  omega
theorem a8e:∀ {l:List Ar} {e:Int},t8 e l->e<=256->a1k e l<=256
 |[],_,_,h=>h
 |a::l,e,h,_=>a8e (l:=l) (e:=a.fin) h.2.2 (by have:=h.1;unfold Ar.ok at this;unfold Ar.fin;omega)
theorem b7U {A:List Ar} {L:List Sh} {en:Int} (h:a2e A L en=0):l6 A=0/\A.length<=255/\L.length<=255/\∀ S ∈ L,S.fixes.length<=16:=by
 unfold a2e at h
 by_cases h1:l6 A=0
 ·rw [xf0 h1] at h
  by_cases h2:lkB A L en=true
  ·unfold lkB at h2
   rw [b6j] at h2
   simp only [xb4,xb5] at h2
   obtain ⟨h3,⟨h4,-⟩,-⟩:=h2
   obtain ⟨h5,h6⟩:=o5.1 h1
   have h7:=(b16 (l:=A) (q:=1) (q':=256) h6.1 (a8e h6.1 (by omega)) (by omega)).1
   exact ⟨h1,h5,by omega,fun S hS=>a4n ((a2i h4).1 S hS).1⟩
  ·rw [xf1 h2] at h;cases h
 ·rw [xf1 h1] at h;exact absurd h h1
theorem b6S {w:World} {A:List Ar} {Lp:List (Sh×Value)} {va vs:Value} {en:Int} (hA:Sl nF w 4 va (A.map arC)) (hL:ShsV w Lp vs) (hen:-9223372036854775808<=en) (hen2:en<=9223372036854775807) {frames slots:Int}:Fn Tryz.prog 18 [lkA va vs en,.int .i64 frames,.int .i64 slots] w (fun v w'=>∃ k',v=.tuple #[.agg (kvC k').toArray,.int .i64 (b4x A (shs Lp) en frames slots)]/\k'.K=b7o A (shs Lp) en frames slots/\Came w w' k'):=by
 have hchk:=fun w1 Γ1 (h:St nF w w1 Γ1)=>b1k (hA.now h) (hL.now h) hen hen2
 have htot:=fun w1 Γ1 (h:St nF w w1 Γ1)=>a3x (hA.now h)
 obtain ⟨RE,hRE⟩:∃ e,e=b4x A (shs Lp) en frames slots:=⟨_,rfl⟩
 unfold b7o
 rw [<- hRE]
 unfold b4x at hRE
 obtain ⟨pa,ca,rfl⟩:=hA.len
 obtain ⟨ph,ch,rfl⟩:=hL.sl.len
 unfold lkA at hchk |-
 unfold kvC
 have hno:∀ {w1 Γ1},St nF w w1 Γ1->∀ {e:Int},e≠0->∃ k':KV,Value.tuple #[.agg #[.slice none 0 0,.slice none 0 0,.slice none 0 0,.slice none 0 0,.int .i64 0],.int .i64 e]=.tuple #[.agg [k'.vsh,k'.vfr,k'.vsl,k'.vsp,.int .i64 k'.hand].toArray,.int .i64 e]/\k'.K=(if e=0 then (⟨shs Lp,List.replicate frames.toNat fm0,List.replicate slots.toNat sw0,[⟨true,A,[]⟩],0⟩:Ker) else a8h)/\Came w w1 k':=by
  intro w1 Γ1 h e he
  exact ⟨kv0,rfl,by rw [xf1 he];rfl,xd6 ⟨rfl,h.sub (xh2 _)⟩⟩
 by_cases h0:a2e A (shs Lp) en=0
 rotate_left
 ·rw [xf1 h0] at hRE
  have hd:decide (a2e A (shs Lp) en=0)=false:=xh9 h0
  rw [<- hRE] at hd hchk h0
  refine yEn Tryz.func18 Tryz.ntmps18 (by kernel_rfl) (by kernel_rfl) rfl rfl ?_
  have hS:=St.start w
  repeat' (first|((with_reducible apply b9 b8);rfl;rfl;rfl)|((with_reducible apply c9);rfl;(((with_reducible apply Loads.st b8);rfl;((exact hS.blkR 1 rfl));rfl));rfl)|((with_reducible apply l4 b8);rfl;rfl;((exact (rfl:_=some [_,_,_,_,_])));rfl)|refine yDn (by with_reducible constructor) ?_|((with_reducible apply k7 hS);rfl;rfl;rfl;clear hS;intro g w' hS)|((with_reducible apply d6 hS b8);rfl;rfl;rfl;clear hS;intro g w' hS)|((with_reducible apply d5 hS b8 (i:=0));(iterate 8 rfl);((exact (rfl:_=[_,_,_,_,_])));clear hS;intro w' hS;simp only [List.set] at hS)|((with_reducible apply a0B);rfl;all_goals (intro hb hp;try (exfalso;omega)))|((with_reducible apply d7 hS);rfl;rfl;rfl;refine ⟨_,hchk _ _ hS,?_⟩;clear hS;intro w' hS))
  ((apply a01);repeat (first|exact ResL.nil|(apply ResL.tmp;rfl)|(apply ResL.cell;rfl;(((with_reducible apply Loads.st b8);rfl;((exact hS.blkR 0 rfl));rfl)))))
  exact hno hS h0
 rw [xf0 h0] at hRE
 rw [h0] at hchk
 obtain ⟨hc,hb1,hb2,hb3⟩:=b7U h0
 rw [xf0 hc] at htot
 by_cases h1:frames < 3
 ·rw [xf0 h1] at hRE
  subst hRE
  have hd:decide (frames < 3)=true:=xi0 h1
  refine yEn Tryz.func18 Tryz.ntmps18 (by kernel_rfl) (by kernel_rfl) rfl rfl ?_
  have hS:=St.start w
  repeat' (first|((with_reducible apply b9 b8);rfl;rfl;rfl)|((with_reducible apply c9);rfl;(((with_reducible apply Loads.st b8);rfl;((exact hS.blkR 1 rfl));rfl));rfl)|((with_reducible apply l4 b8);rfl;rfl;((exact (rfl:_=some [_,_,_,_,_])));rfl)|refine yDn (by with_reducible constructor) ?_|((with_reducible apply e8);rfl;(assumption))|((with_reducible apply f8);rfl;(rfl))|((with_reducible apply k7 hS);rfl;rfl;rfl;clear hS;intro g w' hS)|((with_reducible apply d6 hS b8);rfl;rfl;rfl;clear hS;intro g w' hS)|((with_reducible apply d5 hS b8 (i:=0));(iterate 8 rfl);((exact (rfl:_=[_,_,_,_,_])));clear hS;intro w' hS;simp only [List.set] at hS)|((with_reducible apply d7 hS);rfl;rfl;rfl;refine ⟨_,hchk _ _ hS,?_⟩;clear hS;intro w' hS))
  ((apply a01);repeat (first|exact ResL.nil|(apply ResL.tmp;rfl)|(apply ResL.cell;rfl;(((with_reducible apply Loads.st b8);rfl;((exact hS.blkR 0 rfl));rfl)))))
  exact hno hS (by omega)
 rw [xf1 h1] at hRE
 have hd1:decide (frames < 3)=false:=xh9 h1
 by_cases h2:64 < frames\/slots < 0\/512 < slots
 ·rw [xf0 h2] at hRE
  subst hRE
  refine yEn Tryz.func18 Tryz.ntmps18 (by kernel_rfl) (by kernel_rfl) rfl rfl ?_
  have hS:=St.start w
  repeat' (first|((with_reducible apply b9 b8);rfl;rfl;rfl)|((with_reducible apply c9);rfl;(((with_reducible apply Loads.st b8);rfl;((exact hS.blkR 1 rfl));rfl));rfl)|((with_reducible apply l4 b8);rfl;rfl;((exact (rfl:_=some [_,_,_,_,_])));rfl)|refine yDn (by with_reducible constructor) ?_|((with_reducible apply e8);rfl;(assumption))|((with_reducible apply f8);rfl;first|rfl|assumption)|((with_reducible apply k7 hS);rfl;rfl;rfl;clear hS;intro g w' hS)|((with_reducible apply d6 hS b8);rfl;rfl;rfl;clear hS;intro g w' hS)|((with_reducible apply d5 hS b8 (i:=0));(iterate 8 rfl);((exact (rfl:_=[_,_,_,_,_])));clear hS;intro w' hS;simp only [List.set] at hS)|((with_reducible apply d8);rfl;all_goals (intro hb hp;try (exfalso;omega)))|((with_reducible apply d7 hS);rfl;rfl;rfl;refine ⟨_,hchk _ _ hS,?_⟩;clear hS;intro w' hS))
  all_goals (apply a01)
  all_goals (repeat (first|exact ResL.nil|(apply ResL.tmp;rfl)|(apply ResL.cell;rfl;(((with_reducible apply Loads.st b8);rfl;((exact hS.blkR 0 rfl));rfl)))))
  all_goals (exact hno hS (by omega))
 rw [xf1 h2] at hRE
 have hd2:decide (64 < frames)=false:=xh9 (by omega)
 have hd3:decide (slots < 0)=false:=xh9 (by omega)
 have hd4:decide (512 < slots)=false:=xh9 (by omega)
 by_cases h3:slots < r9 A
 ·rw [xf0 h3] at hRE
  subst hRE
  have hd5:decide (slots < r9 A)=true:=xi0 h3
  refine yEn Tryz.func18 Tryz.ntmps18 (by kernel_rfl) (by kernel_rfl) rfl rfl ?_
  have hS:=St.start w
  repeat' (first|((with_reducible apply b9 b8);rfl;rfl;rfl)|((with_reducible apply c9);rfl;(first|((with_reducible apply Loads.sl b8);rfl;((exact hS.blkC 1 rfl rfl)))|((with_reducible apply Loads.st b8);rfl;((exact hS.blkR 1 rfl));rfl));rfl)|((with_reducible apply l4 b8);rfl;rfl;((exact (rfl:_=some [_,_,_,_,_])));rfl)|refine yDn (by with_reducible constructor) ?_|((with_reducible apply e8);rfl;(assumption))|((with_reducible apply f8);rfl;first|rfl|assumption)|((with_reducible apply k7 hS);rfl;rfl;rfl;clear hS;intro g w' hS)|((with_reducible apply d6 hS b8);rfl;rfl;rfl;clear hS;intro g w' hS)|((with_reducible apply d5 hS b8 (i:=0));(iterate 8 rfl);((exact (rfl:_=[_,_,_,_,_])));clear hS;intro w' hS;simp only [List.set] at hS)|((with_reducible apply d7 hS);rfl;rfl;rfl;refine ⟨_,hchk _ _ hS,?_⟩;clear hS;intro w' hS)|((with_reducible apply d7 hS);rfl;rfl;rfl;refine ⟨_,htot _ _ hS,?_⟩;clear hS;intro w' hS))
  ((apply a01);repeat (first|exact ResL.nil|(apply ResL.tmp;rfl)|(apply ResL.cell;rfl;(((with_reducible apply Loads.st b8);rfl;((exact hS.blkR 0 rfl));rfl)))))
  exact hno hS (by omega)
 rw [xf1 h3] at hRE
 subst hRE
 rw [xf0 rfl]
 have hd5:decide (slots < r9 A)=false:=xh9 h3
 obtain ⟨nf,rfl⟩:∃ n:Nat,frames=(n:Nat):=⟨frames.toNat,by omega⟩
 obtain ⟨ns,rfl⟩:∃ n:Nat,slots=(n:Nat):=⟨slots.toNat,by omega⟩
 refine yEn Tryz.func18 Tryz.ntmps18 (by kernel_rfl) (by kernel_rfl) rfl rfl ?_
 have hS:=St.start w
 repeat' (first|((with_reducible apply b9 b8);rfl;rfl;rfl)|((with_reducible apply c9);rfl;(first|((with_reducible apply Loads.sl b8);rfl;((exact hS.blkC 1 rfl rfl)))|((with_reducible apply Loads.st b8);rfl;((exact hS.blkR 1 rfl));rfl));rfl)|refine yDn (by with_reducible constructor) ?_|((with_reducible apply f8);rfl;first|rfl|assumption)|((with_reducible apply k7 hS);rfl;rfl;rfl;clear hS;intro g w' hS)|((with_reducible apply d6 hS b8);rfl;rfl;rfl;clear hS;intro g w' hS)|((with_reducible apply d7 hS);rfl;rfl;rfl;refine ⟨_,hchk _ _ hS,?_⟩;clear hS;intro w' hS)|((with_reducible apply d7 hS);rfl;rfl;rfl;refine ⟨_,htot _ _ hS,?_⟩;clear hS;intro w' hS))
 rename_i g3 _ _ _
 have hAw:=fun w1 Γ1 (h:St nF w w1 Γ1)=>hA.now h
 have hLw:=fun w1 Γ1 (h:St nF w w1 Γ1)=>hL.now h
 have hlen:Lp.length<=255:=by rw [<- a1O];exact hb2
 have hfx:∀ x ∈ Lp,x.1.fixes.length<=16:=fun x hx=>hb3 x.1 (xh0.2 ⟨x,hx,rfl⟩)
 have hown:=fun w1 Γ1 (h:St nF w w1 Γ1) gF gS gP (r1:Sl nF w1 4 (.slice (some ⟨gF,0,none⟩) nf nf) (List.replicate nf [.string ⟨#[]⟩,.int .i64 0,.bool false,.bool false])) (r2:Sl nF w1 2 (.slice (some ⟨gS,0,none⟩) ns ns) (List.replicate ns [.string ⟨#[]⟩,.int .i64 0])) (r3:Sl nF w1 3 (.slice (some ⟨gP,0,none⟩) 1 1) [[.bool true,.slice pa A.length ca,.slice none 0 0]])=>b0y (b7R (hAw _ _ h) (hLw _ _ h) r1 r2 r3) (b7O (va:=.slice pa A.length ca) (vs:=.slice ph Lp.length ch) (vF:=.slice (some ⟨gF,0,none⟩) nf nf) (vS:=.slice (some ⟨gS,0,none⟩) ns ns) (vP:=.slice (some ⟨gP,0,none⟩) 1 1) (nf:=nf) (ns:=ns) hb1 hlen hfx (by omega) (by omega))
 unfold b4p kvC at hown
 refine a5y (F:=nF) (w0:=w) (X:=KV) (fun _=>[(6,.pointer (some ⟨g,0,none⟩)),(7,.int .i64 0)]) (fun k'=>.blk g (kvC k')::kA k') (fun k'=>k'.K=(⟨shs Lp,List.replicate nf fm0,List.replicate ns sw0,[⟨true,A,[]⟩],0⟩:Ker)) ?_ ?_
 ·refine a12 (fun w'=>St nF w w' [.blk g3 [.slice pa A.length ca,.slice ph Lp.length ch,.int .i64 en]]) 14 rfl hS (by kernel_rfl) ?_
  intro w1 hS'
  clear hS;have hS:=hS';clear hS'
  ((with_reducible apply j7 (nn 0) b8);rfl;kernel_rfl;exact (fun _ _ _ h=>h);exact (hS.sub (by repeat (first|exact xh5 _|apply xh6)));rfl;rfl)
  ((with_reducible apply o9 (nn 1));rfl;kernel_rfl;exact (fun _ _ _ h=>h);exact (hS.sub (by repeat (first|exact xh5 _|apply xh6)));rfl;(intro wd hd;replace hd:St _ _ wd _:=hd;(((with_reducible apply Loads.sl b8);rfl;((exact hd.blkC 0 rfl rfl)))));rfl)
  ((with_reducible apply j7 (nn 2) b8);rfl;kernel_rfl;exact (fun _ _ _ h=>h);exact (hS.sub (by repeat (first|exact xh5 _|apply xh6)));rfl;rfl)
  ((with_reducible apply j7 (nn 4) b8);rfl;kernel_rfl;exact (fun _ _ _ h=>h);exact (hS.sub (by repeat (first|exact xh5 _|apply xh6)));rfl;rfl)
  ((with_reducible apply j7 (nn 6) b8);rfl;kernel_rfl;exact (fun _ _ _ h=>h);exact (hS.sub (by repeat (first|exact xh5 _|apply xh6)));rfl;rfl)
  ((with_reducible apply o9 (nn 7));rfl;kernel_rfl;exact (fun _ _ _ h=>h);exact (hS.sub (by repeat (first|exact xh5 _|apply xh6)));rfl;(intro wd hd;replace hd:St _ _ wd _:=hd;(((with_reducible apply Loads.sl b8);rfl;((exact hd.blkC 0 rfl rfl)))));rfl)
  ((with_reducible apply v9 (nn 8) b8);rfl;kernel_rfl;kernel_rfl;kernel_rfl;exact (fun _ _ _ _ h=>h);exact (hS.sub (by repeat (first|exact xh5 _|apply xh6)));rfl;rfl;((exact (rfl:_=some [_,_,_])));rfl)
  refine b1F (i:=3) (j:=5) (l:=9) (by kernel_rfl) ?_ ?_ ?_
  ·refine l7 rfl (a0C hS b8 (m:=nf) rfl rfl rfl rfl rfl (by omega) (by omega) rfl) rfl ?_
   rintro _ w' ⟨gF,rfl,hS'⟩
   clear hS;have hS:=hS';clear hS'
   refine ⟨(hS.sub (by repeat (first|exact xh5 _|apply xh6))),?_⟩
   refine a3h (i:=5) (j:=9) (by kernel_rfl) ?_ ?_
   ·refine l7 rfl (a0C hS b8 (m:=ns) rfl rfl rfl rfl rfl (by omega) (by omega) rfl) rfl ?_
    rintro _ w' ⟨gS,rfl,hS'⟩
    clear hS;have hS:=hS';clear hS'
    refine ⟨(hS.sub (by repeat (first|exact xh5 _|apply xh6))),?_⟩
    refine m5 (i:=9) (by kernel_rfl) ?_
    refine l7 rfl (z0 hS b8 rfl rfl rfl rfl rfl rfl) rfl ?_
    rintro _ w' ⟨gP,rfl,hS'⟩
    clear hS;have hS:=hS';clear hS'
    refine ⟨(hS.sub (by repeat (first|exact xh5 _|apply xh6))),?_⟩
    ((with_reducible apply v9 (nn 10) b8);rfl;kernel_rfl;kernel_rfl;kernel_rfl;exact (fun _ _ _ _ h=>h);exact (hS.sub (by repeat (first|exact xh5 _|apply xh6)));rfl;rfl;((exact (rfl:_=some [_,_,_,_,_])));rfl)
    replace hS:=St.reorder [2,1,0,3,4] hS (by decide) rfl
    refine m5 (i:=11) (by kernel_rfl) ?_
    refine l7 rfl (a0l (first:=[]) (caps:=[]) rfl rfl (hown _ _ hS gF gS gP (hS.rowSl 0 rfl) (hS.rowSl 1 rfl) (hS.rowSl 2 rfl))) rfl ?_
    rintro _ w' ⟨k',rfl,hk',h2⟩
    replace hS:=hS.trans h2
    clear h2 hown
    replace hS:=hS.perm xi2
    obtain ⟨sh',fr',sl',sps',hand',vsh',vfr',vsl',vsp'⟩:=k'
    unfold kA at hS
    dsimp only [List.cons_append,List.nil_append] at hS
    obtain ⟨q1,d1,rfl⟩:=hS.rowSlice 5 rfl
    obtain ⟨q2,d2,rfl⟩:=hS.rowSlice 6 rfl
    obtain ⟨q3,d3,rfl⟩:=hS.rowSlice 7 rfl
    obtain ⟨q4,d4,rfl⟩:=hS.rowSlice 8 rfl
    refine ⟨(hS.sub (.cons _ (.cons _ (.cons _ (.cons _ (.cons_cons _ (xh2 _))))))),?_⟩
    refine m5 (i:=12) (by kernel_rfl) ?_
    refine m9 (Φ:=fun _ w'=>St _ _ w' _) rfl (l9 hS b8 (i:=3) rfl rfl rfl rfl rfl (xg4 rfl) (xc7.1 rfl)) ?_
    intro _ w' hS'
    simp only [List.set] at hS'
    clear hS;have hS:=hS';clear hS'
    refine ⟨(hS.sub (.cons _ (.cons _ (.cons _ (.cons _ (.cons_cons _ (xh2 _))))))),?_⟩
    ((with_reducible apply j7 (nn 13) b8);rfl;kernel_rfl;exact (fun _ _ _ h=>h);exact (hS.sub (.cons _ (.cons _ (.cons _ (.cons _ (.cons_cons _ (xh2 _)))))));rfl;rfl)
    refine t7 (by kernel_rfl) ?_
    exact a0g _ (by exact Fr.sub_of rfl) hk' (hS.sub (.cons _ (.cons _ (.cons _ (.cons_cons _ (.cons _ (.refl _)))))))
   ·refine l7 rfl (z0 hS b8 rfl rfl rfl rfl rfl rfl) rfl ?_
    rintro _ w' ⟨gP,rfl,hS'⟩
    clear hS;have hS:=hS';clear hS'
    refine ⟨(hS.sub (by repeat (first|exact xh5 _|apply xh6))),?_⟩
    refine m5 (i:=5) (by kernel_rfl) ?_
    refine l7 rfl (a0C hS b8 (m:=ns) rfl rfl rfl rfl rfl (by omega) (by omega) rfl) rfl ?_
    rintro _ w' ⟨gS,rfl,hS'⟩
    clear hS;have hS:=hS';clear hS'
    refine ⟨(hS.sub (by repeat (first|exact xh5 _|apply xh6))),?_⟩
    ((with_reducible apply v9 (nn 10) b8);rfl;kernel_rfl;kernel_rfl;kernel_rfl;exact (fun _ _ _ _ h=>h);exact (hS.sub (by repeat (first|exact xh5 _|apply xh6)));rfl;rfl;((exact (rfl:_=some [_,_,_,_,_])));rfl)
    replace hS:=St.reorder [2,0,1,3,4] hS (by decide) rfl
    refine m5 (i:=11) (by kernel_rfl) ?_
    refine l7 rfl (a0l (first:=[]) (caps:=[]) rfl rfl (hown _ _ hS gF gS gP (hS.rowSl 0 rfl) (hS.rowSl 1 rfl) (hS.rowSl 2 rfl))) rfl ?_
    rintro _ w' ⟨k',rfl,hk',h2⟩
    replace hS:=hS.trans h2
    clear h2 hown
    replace hS:=hS.perm xi2
    obtain ⟨sh',fr',sl',sps',hand',vsh',vfr',vsl',vsp'⟩:=k'
    unfold kA at hS
    dsimp only [List.cons_append,List.nil_append] at hS
    obtain ⟨q1,d1,rfl⟩:=hS.rowSlice 5 rfl
    obtain ⟨q2,d2,rfl⟩:=hS.rowSlice 6 rfl
    obtain ⟨q3,d3,rfl⟩:=hS.rowSlice 7 rfl
    obtain ⟨q4,d4,rfl⟩:=hS.rowSlice 8 rfl
    refine ⟨(hS.sub (.cons _ (.cons _ (.cons _ (.cons _ (.cons_cons _ (xh2 _))))))),?_⟩
    refine m5 (i:=12) (by kernel_rfl) ?_
    refine m9 (Φ:=fun _ w'=>St _ _ w' _) rfl (l9 hS b8 (i:=3) rfl rfl rfl rfl rfl (xg4 rfl) (xc7.1 rfl)) ?_
    intro _ w' hS'
    simp only [List.set] at hS'
    clear hS;have hS:=hS';clear hS'
    refine ⟨(hS.sub (.cons _ (.cons _ (.cons _ (.cons _ (.cons_cons _ (xh2 _))))))),?_⟩
    ((with_reducible apply j7 (nn 13) b8);rfl;kernel_rfl;exact (fun _ _ _ h=>h);exact (hS.sub (.cons _ (.cons _ (.cons _ (.cons _ (.cons_cons _ (xh2 _)))))));rfl;rfl)
    refine t7 (by kernel_rfl) ?_
    exact a0g _ (by exact Fr.sub_of rfl) hk' (hS.sub (.cons _ (.cons _ (.cons _ (.cons_cons _ (.cons _ (.refl _)))))))
  ·refine l7 rfl (a0C hS b8 (m:=ns) rfl rfl rfl rfl rfl (by omega) (by omega) rfl) rfl ?_
   rintro _ w' ⟨gS,rfl,hS'⟩
   clear hS;have hS:=hS';clear hS'
   refine ⟨(hS.sub (by repeat (first|exact xh5 _|apply xh6))),?_⟩
   refine a3h (i:=3) (j:=9) (by kernel_rfl) ?_ ?_
   ·refine l7 rfl (a0C hS b8 (m:=nf) rfl rfl rfl rfl rfl (by omega) (by omega) rfl) rfl ?_
    rintro _ w' ⟨gF,rfl,hS'⟩
    clear hS;have hS:=hS';clear hS'
    refine ⟨(hS.sub (by repeat (first|exact xh5 _|apply xh6))),?_⟩
    refine m5 (i:=9) (by kernel_rfl) ?_
    refine l7 rfl (z0 hS b8 rfl rfl rfl rfl rfl rfl) rfl ?_
    rintro _ w' ⟨gP,rfl,hS'⟩
    clear hS;have hS:=hS';clear hS'
    refine ⟨(hS.sub (by repeat (first|exact xh5 _|apply xh6))),?_⟩
    ((with_reducible apply v9 (nn 10) b8);rfl;kernel_rfl;kernel_rfl;kernel_rfl;exact (fun _ _ _ _ h=>h);exact (hS.sub (by repeat (first|exact xh5 _|apply xh6)));rfl;rfl;((exact (rfl:_=some [_,_,_,_,_])));rfl)
    replace hS:=St.reorder [1,2,0,3,4] hS (by decide) rfl
    refine m5 (i:=11) (by kernel_rfl) ?_
    refine l7 rfl (a0l (first:=[]) (caps:=[]) rfl rfl (hown _ _ hS gF gS gP (hS.rowSl 0 rfl) (hS.rowSl 1 rfl) (hS.rowSl 2 rfl))) rfl ?_
    rintro _ w' ⟨k',rfl,hk',h2⟩
    replace hS:=hS.trans h2
    clear h2 hown
    replace hS:=hS.perm xi2
    obtain ⟨sh',fr',sl',sps',hand',vsh',vfr',vsl',vsp'⟩:=k'
    unfold kA at hS
    dsimp only [List.cons_append,List.nil_append] at hS
    obtain ⟨q1,d1,rfl⟩:=hS.rowSlice 5 rfl
    obtain ⟨q2,d2,rfl⟩:=hS.rowSlice 6 rfl
    obtain ⟨q3,d3,rfl⟩:=hS.rowSlice 7 rfl
    obtain ⟨q4,d4,rfl⟩:=hS.rowSlice 8 rfl
    refine ⟨(hS.sub (.cons _ (.cons _ (.cons _ (.cons _ (.cons_cons _ (xh2 _))))))),?_⟩
    refine m5 (i:=12) (by kernel_rfl) ?_
    refine m9 (Φ:=fun _ w'=>St _ _ w' _) rfl (l9 hS b8 (i:=3) rfl rfl rfl rfl rfl (xg4 rfl) (xc7.1 rfl)) ?_
    intro _ w' hS'
    simp only [List.set] at hS'
    clear hS;have hS:=hS';clear hS'
    refine ⟨(hS.sub (.cons _ (.cons _ (.cons _ (.cons _ (.cons_cons _ (xh2 _))))))),?_⟩
    ((with_reducible apply j7 (nn 13) b8);rfl;kernel_rfl;exact (fun _ _ _ h=>h);exact (hS.sub (.cons _ (.cons _ (.cons _ (.cons _ (.cons_cons _ (xh2 _)))))));rfl;rfl)
    refine t7 (by kernel_rfl) ?_
    exact a0g _ (by exact Fr.sub_of rfl) hk' (hS.sub (.cons _ (.cons _ (.cons _ (.cons_cons _ (.cons _ (.refl _)))))))
   ·refine l7 rfl (z0 hS b8 rfl rfl rfl rfl rfl rfl) rfl ?_
    rintro _ w' ⟨gP,rfl,hS'⟩
    clear hS;have hS:=hS';clear hS'
    refine ⟨(hS.sub (by repeat (first|exact xh5 _|apply xh6))),?_⟩
    refine m5 (i:=3) (by kernel_rfl) ?_
    refine l7 rfl (a0C hS b8 (m:=nf) rfl rfl rfl rfl rfl (by omega) (by omega) rfl) rfl ?_
    rintro _ w' ⟨gF,rfl,hS'⟩
    clear hS;have hS:=hS';clear hS'
    refine ⟨(hS.sub (by repeat (first|exact xh5 _|apply xh6))),?_⟩
    ((with_reducible apply v9 (nn 10) b8);rfl;kernel_rfl;kernel_rfl;kernel_rfl;exact (fun _ _ _ _ h=>h);exact (hS.sub (by repeat (first|exact xh5 _|apply xh6)));rfl;rfl;((exact (rfl:_=some [_,_,_,_,_])));rfl)
    replace hS:=St.reorder [0,2,1,3,4] hS (by decide) rfl
    refine m5 (i:=11) (by kernel_rfl) ?_
    refine l7 rfl (a0l (first:=[]) (caps:=[]) rfl rfl (hown _ _ hS gF gS gP (hS.rowSl 0 rfl) (hS.rowSl 1 rfl) (hS.rowSl 2 rfl))) rfl ?_
    rintro _ w' ⟨k',rfl,hk',h2⟩
    replace hS:=hS.trans h2
    clear h2 hown
    replace hS:=hS.perm xi2
    obtain ⟨sh',fr',sl',sps',hand',vsh',vfr',vsl',vsp'⟩:=k'
    unfold kA at hS
    dsimp only [List.cons_append,List.nil_append] at hS
    obtain ⟨q1,d1,rfl⟩:=hS.rowSlice 5 rfl
    obtain ⟨q2,d2,rfl⟩:=hS.rowSlice 6 rfl
    obtain ⟨q3,d3,rfl⟩:=hS.rowSlice 7 rfl
    obtain ⟨q4,d4,rfl⟩:=hS.rowSlice 8 rfl
    refine ⟨(hS.sub (.cons _ (.cons _ (.cons _ (.cons _ (.cons_cons _ (xh2 _))))))),?_⟩
    refine m5 (i:=12) (by kernel_rfl) ?_
    refine m9 (Φ:=fun _ w'=>St _ _ w' _) rfl (l9 hS b8 (i:=3) rfl rfl rfl rfl rfl (xg4 rfl) (xc7.1 rfl)) ?_
    intro _ w' hS'
    simp only [List.set] at hS'
    clear hS;have hS:=hS';clear hS'
    refine ⟨(hS.sub (.cons _ (.cons _ (.cons _ (.cons _ (.cons_cons _ (xh2 _))))))),?_⟩
    ((with_reducible apply j7 (nn 13) b8);rfl;kernel_rfl;exact (fun _ _ _ h=>h);exact (hS.sub (.cons _ (.cons _ (.cons _ (.cons _ (.cons_cons _ (xh2 _)))))));rfl;rfl)
    refine t7 (by kernel_rfl) ?_
    exact a0g _ (by exact Fr.sub_of rfl) hk' (hS.sub (.cons _ (.cons _ (.cons _ (.cons_cons _ (.cons _ (.refl _)))))))
  ·refine l7 rfl (z0 hS b8 rfl rfl rfl rfl rfl rfl) rfl ?_
   rintro _ w' ⟨gP,rfl,hS'⟩
   clear hS;have hS:=hS';clear hS'
   refine ⟨(hS.sub (by repeat (first|exact xh5 _|apply xh6))),?_⟩
   refine a3h (i:=3) (j:=5) (by kernel_rfl) ?_ ?_
   ·refine l7 rfl (a0C hS b8 (m:=nf) rfl rfl rfl rfl rfl (by omega) (by omega) rfl) rfl ?_
    rintro _ w' ⟨gF,rfl,hS'⟩
    clear hS;have hS:=hS';clear hS'
    refine ⟨(hS.sub (by repeat (first|exact xh5 _|apply xh6))),?_⟩
    refine m5 (i:=5) (by kernel_rfl) ?_
    refine l7 rfl (a0C hS b8 (m:=ns) rfl rfl rfl rfl rfl (by omega) (by omega) rfl) rfl ?_
    rintro _ w' ⟨gS,rfl,hS'⟩
    clear hS;have hS:=hS';clear hS'
    refine ⟨(hS.sub (by repeat (first|exact xh5 _|apply xh6))),?_⟩
    ((with_reducible apply v9 (nn 10) b8);rfl;kernel_rfl;kernel_rfl;kernel_rfl;exact (fun _ _ _ _ h=>h);exact (hS.sub (by repeat (first|exact xh5 _|apply xh6)));rfl;rfl;((exact (rfl:_=some [_,_,_,_,_])));rfl)
    replace hS:=St.reorder [1,0,2,3,4] hS (by decide) rfl
    refine m5 (i:=11) (by kernel_rfl) ?_
    refine l7 rfl (a0l (first:=[]) (caps:=[]) rfl rfl (hown _ _ hS gF gS gP (hS.rowSl 0 rfl) (hS.rowSl 1 rfl) (hS.rowSl 2 rfl))) rfl ?_
    rintro _ w' ⟨k',rfl,hk',h2⟩
    replace hS:=hS.trans h2
    clear h2 hown
    replace hS:=hS.perm xi2
    obtain ⟨sh',fr',sl',sps',hand',vsh',vfr',vsl',vsp'⟩:=k'
    unfold kA at hS
    dsimp only [List.cons_append,List.nil_append] at hS
    obtain ⟨q1,d1,rfl⟩:=hS.rowSlice 5 rfl
    obtain ⟨q2,d2,rfl⟩:=hS.rowSlice 6 rfl
    obtain ⟨q3,d3,rfl⟩:=hS.rowSlice 7 rfl
    obtain ⟨q4,d4,rfl⟩:=hS.rowSlice 8 rfl
    refine ⟨(hS.sub (.cons _ (.cons _ (.cons _ (.cons _ (.cons_cons _ (xh2 _))))))),?_⟩
    refine m5 (i:=12) (by kernel_rfl) ?_
    refine m9 (Φ:=fun _ w'=>St _ _ w' _) rfl (l9 hS b8 (i:=3) rfl rfl rfl rfl rfl (xg4 rfl) (xc7.1 rfl)) ?_
    intro _ w' hS'
    simp only [List.set] at hS'
    clear hS;have hS:=hS';clear hS'
    refine ⟨(hS.sub (.cons _ (.cons _ (.cons _ (.cons _ (.cons_cons _ (xh2 _))))))),?_⟩
    ((with_reducible apply j7 (nn 13) b8);rfl;kernel_rfl;exact (fun _ _ _ h=>h);exact (hS.sub (.cons _ (.cons _ (.cons _ (.cons _ (.cons_cons _ (xh2 _)))))));rfl;rfl)
    refine t7 (by kernel_rfl) ?_
    exact a0g _ (by exact Fr.sub_of rfl) hk' (hS.sub (.cons _ (.cons _ (.cons _ (.cons_cons _ (.cons _ (.refl _)))))))
   ·refine l7 rfl (a0C hS b8 (m:=ns) rfl rfl rfl rfl rfl (by omega) (by omega) rfl) rfl ?_
    rintro _ w' ⟨gS,rfl,hS'⟩
    clear hS;have hS:=hS';clear hS'
    refine ⟨(hS.sub (by repeat (first|exact xh5 _|apply xh6))),?_⟩
    refine m5 (i:=3) (by kernel_rfl) ?_
    refine l7 rfl (a0C hS b8 (m:=nf) rfl rfl rfl rfl rfl (by omega) (by omega) rfl) rfl ?_
    rintro _ w' ⟨gF,rfl,hS'⟩
    clear hS;have hS:=hS';clear hS'
    refine ⟨(hS.sub (by repeat (first|exact xh5 _|apply xh6))),?_⟩
    ((with_reducible apply v9 (nn 10) b8);rfl;kernel_rfl;kernel_rfl;kernel_rfl;exact (fun _ _ _ _ h=>h);exact (hS.sub (by repeat (first|exact xh5 _|apply xh6)));rfl;rfl;((exact (rfl:_=some [_,_,_,_,_])));rfl)
    replace hS:=St.reorder [0,1,2,3,4] hS (by decide) rfl
    refine m5 (i:=11) (by kernel_rfl) ?_
    refine l7 rfl (a0l (first:=[]) (caps:=[]) rfl rfl (hown _ _ hS gF gS gP (hS.rowSl 0 rfl) (hS.rowSl 1 rfl) (hS.rowSl 2 rfl))) rfl ?_
    rintro _ w' ⟨k',rfl,hk',h2⟩
    replace hS:=hS.trans h2
    clear h2 hown
    replace hS:=hS.perm xi2
    obtain ⟨sh',fr',sl',sps',hand',vsh',vfr',vsl',vsp'⟩:=k'
    unfold kA at hS
    dsimp only [List.cons_append,List.nil_append] at hS
    obtain ⟨q1,d1,rfl⟩:=hS.rowSlice 5 rfl
    obtain ⟨q2,d2,rfl⟩:=hS.rowSlice 6 rfl
    obtain ⟨q3,d3,rfl⟩:=hS.rowSlice 7 rfl
    obtain ⟨q4,d4,rfl⟩:=hS.rowSlice 8 rfl
    refine ⟨(hS.sub (.cons _ (.cons _ (.cons _ (.cons _ (.cons_cons _ (xh2 _))))))),?_⟩
    refine m5 (i:=12) (by kernel_rfl) ?_
    refine m9 (Φ:=fun _ w'=>St _ _ w' _) rfl (l9 hS b8 (i:=3) rfl rfl rfl rfl rfl (xg4 rfl) (xc7.1 rfl)) ?_
    intro _ w' hS'
    simp only [List.set] at hS'
    clear hS;have hS:=hS';clear hS'
    refine ⟨(hS.sub (.cons _ (.cons _ (.cons _ (.cons _ (.cons_cons _ (xh2 _))))))),?_⟩
    ((with_reducible apply j7 (nn 13) b8);rfl;kernel_rfl;exact (fun _ _ _ h=>h);exact (hS.sub (.cons _ (.cons _ (.cons _ (.cons _ (.cons_cons _ (xh2 _)))))));rfl;rfl)
    refine t7 (by kernel_rfl) ?_
    exact a0g _ (by exact Fr.sub_of rfl) hk' (hS.sub (.cons _ (.cons _ (.cons _ (.cons_cons _ (.cons _ (.refl _)))))))
 clear hS
 intro k' w1 hk' hS
 unfold kvC at hS
 repeat' ((refine yDn (by with_reducible constructor) ?_))
 ((apply a01);repeat (first|exact ResL.nil|(apply ResL.tmp;rfl)|(apply ResL.cell;rfl;(((with_reducible apply Loads.st b8);rfl;((exact hS.blkR 0 rfl));rfl)))))
 exact ⟨k',rfl,by rw [xa9,xa9];exact hk',b5B hS.drop⟩
end Go.Proofs.YtejnpppejalhfabGreat
