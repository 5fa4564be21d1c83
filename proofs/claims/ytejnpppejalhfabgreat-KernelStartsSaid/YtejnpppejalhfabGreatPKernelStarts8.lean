/- Texts that the proof stands on, one behind the other: Im7, Im8, Lk12, Lk14, Lk15, Im9, Im10, Lk16, PlOf, PlRd, Im21, Lk17, Lk18, Ke2, Lk19, Ke3. -/
import Derived.Test.YtejnpppejalhfabGreatPKernelStarts7
namespace Go.Proofs.YtejnpppejalhfabGreat
set_option maxRecDepth 100000
set_option maxHeartbeats 8000000
open Go.RowKit Go.Sort
theorem b6V {I:Im} {w:World} {vn vs vy vr:Value} {x0:Int} {o:Option Sg} (e:own I.segs x0=o) (hI:ImV w I vn vs vy vr) (hok:a5y I=true):Fn Tryz.prog 137 [imA I vn vs vy vr,.int .i64 x0] w (RBf (.tuple #[.agg (sgC (o.getD b4t)).toArray,.bool o.isSome]) w):=by
 subst e;exact b1Z x0 hI hok
theorem b6E {I:Im} (hok:a5y I=true) {x:Int} {s:Sg} (h:own I.segs x=some s):0<=x:=by
 have h1:=xg8 h;have h2:=xj3 h;obtain ⟨k,hk⟩:=xd9.1 h2;obtain ⟨o1,o2,o3,o4,-⟩:=a7S hok hk;unfold a7a at h1;rw [xb5] at h1;omega
structure PlR (I:Im) (i:Nat):Prop where
 rels:∀ (k:Nat) (r:Rl),k < i->I.rels[k]?=some r->(0<=r.at_/\r.at_<=4080)/\∀ b:Int,0<=b->b < 8->(own I.segs (r.at_ + b)).isSome=true
 step:∀ (k:Nat) (q r:Rl),k + 1 < i->I.rels[k]?=some q->I.rels[k + 1]?=some r->q.at_ + 8<=r.at_
theorem PlR.zero (I:Im):PlR I 0:=⟨by intros;omega,by intros;omega⟩
theorem PlR.succ {I:Im} {i:Nat} {x:Rl} (h:PlR I i) (hx:I.rels[i]?=some x) (h1:0<=x.at_/\x.at_<=4080) (h2:∀ b:Int,0<=b->b < 8->(own I.segs (x.at_ + b)).isSome=true) (h3:∀ q,0 < i->I.rels[i - 1]?=some q->q.at_ + 8<=x.at_):PlR I (i + 1) where
 rels k r hk hr:=by
  by_cases e:k=i
  ·subst e;rw [hx] at hr;cases hr;exact ⟨h1,h2⟩
  ·exact h.rels k r (by omega) hr
 step k q r hk hq hr:=by
  by_cases e:k + 1=i
  ·subst e;rw [hx] at hr;cases hr;exact h3 q (by omega) (by simpa using hq)
  ·exact h.step k q r (by omega) hq hr
theorem a4z {α:Type} {o:Option α} (h:(!o.isSome)=false):o.isSome=true:=by simpa using h
theorem a7P {I:Im} {w:World} {vn vs vy vr:Value} (hI:ImV w I vn vs vy vr) (hok:a5y I=true):Fn Tryz.prog 92 [imA I vn vs vy vr] w (RBf (.int .i64 (if a9H I=true then 0 else 6)) w):=by
 have bn:=hI.needs.bound;have bs:=hI.segs.bound;have by_:=hI.syms.bound;have br:=hI.rels.bound;obtain ⟨pn,cn,rfl⟩:=hI.needs.len;obtain ⟨ps,cs,rfl⟩:=hI.segs.len;obtain ⟨py,cy,rfl⟩:=hI.syms.len;obtain ⟨pr,cr,rfl⟩:=hI.rels.len;refine yEn Tryz.func92 Tryz.ntmps92 (by kernel_rfl) (by kernel_rfl) rfl rfl ?_;have hS:=St.start w;have no:¬ Plc I->(if a9H I=true then (0:Int) else 6)=6:=fun h=>xf1 (by rw [a9H,a3x h];simp)
 repeat' (first|(with_reducible apply b9 b8);rfl;rfl;rfl|(with_reducible apply c9);rfl;(apply Ld.sl b8;rfl;exact hS.blkC 0 rfl rfl);rfl|refine yDn (by with_reducible constructor) ?_|(with_reducible apply k9 hS);rfl;rfl;rfl;clear hS;intro g w' hS)
 refine a0p hS 17 [1,15,16] rfl (I.syms.length) (fun i=>(I.syms.take i).all (fun s=>(own I.segs s.at_).isSome)=true) 0 rfl (xi5 _) (by (rfl)) ?_;rintro i w1 hi hall hS';clear hS;have hS:=hS';clear hS';by_cases hlt:i < I.syms.length
 ·obtain ⟨x,hx⟩:=i9 (l:=I.syms) (i:=i) (by omega);have hrow:=d9 (f:=syC) hx;obtain ⟨b,off,rfl,hro⟩:=(hI.syms).at_ hlt
  repeat' (first|(with_reducible apply b9 b8);rfl;rfl;rfl|(with_reducible apply c9);rfl;(first|apply Ld.sc b8;rfl;exact hS.blkC 0 rfl rfl|apply Ld.st b8;rfl;(first|exact hS.blkR 1 rfl|exact hS.roR (by assumption) (by assumption));rfl);rfl|(with_reducible apply l8 b8);rfl;rfl;rfl;rfl;omega;rfl|(with_reducible apply f9);rfl;rfl;omega;omega;rfl|refine yDn (by with_reducible constructor) ?_|(with_reducible apply d6 hS b8);rfl;rfl;rfl;clear hS;intro g w' hS|(with_reducible apply d5 hS b8 (i:=0));(iterate 8 rfl);(first|exact (rfl:_=[_,_])|exact (rfl:_=[_,_,_,_,_]));clear hS;intro w' hS;simp only [List.set] at hS|(with_reducible apply d7);rfl;all_goals (intro hb hp;try (exfalso;omega))|(with_reducible apply a97);rfl;all_goals (intro hb hp;try (exfalso;omega))|(with_reducible apply d8 hS);rfl;rfl;rfl;refine ⟨_,b1Z x.at_ (hI.now hS) hok,?_⟩;clear hS;intro w' hS)
  ·(refine j4 rfl ?_)
   refine ⟨?_,hS.sub (xh2 _)⟩;rw [no fun h=>by have:=h.syms x (xd0 hx);rw [this] at hb;cases hb]
  ·exact v9 (i + 1) (by exact Fr.sub_of rfl) (by omega) (o5 hall hx (a4z hb)) (by omega) hS.drop.drop
 have hsy:=a1y hall (by omega)
 repeat' (first|(with_reducible apply b9 b8);rfl;rfl;rfl|(with_reducible apply c9);rfl;(apply Ld.sl b8;rfl;exact hS.blkC 0 rfl rfl);rfl|refine yDn (by with_reducible constructor) ?_|(with_reducible apply d7);rfl;all_goals (intro hb hp;try (exfalso;omega)))
 clear hall hi hlt hb hp;refine a0p hS 34 [1,32,33] rfl I.rels.length (fun i=>PlR I i) 0 rfl (xi5 _) (PlR.zero I) ?_;rintro i w1 hi hall hS';clear hS;have hS:=hS';clear hS';by_cases hlt:i < I.rels.length
 ·obtain ⟨x,hx⟩:=i9 (l:=I.rels) (i:=i) (by omega);have hrow:=d9 (f:=rlC) hx;obtain ⟨b,off,rfl,hro⟩:=(hI.rels).at_ hlt;by_cases hk0:i=0
  ·repeat' (first|(with_reducible apply b9 b8);rfl;rfl;rfl|(with_reducible apply c9);rfl;(apply Ld.st b8;rfl;exact hS.roR (by assumption) (by assumption);rfl);rfl|(with_reducible apply l8 b8);rfl;rfl;rfl;rfl;omega;rfl|refine yDn (by with_reducible constructor) ?_|(with_reducible apply e8);rfl;rfl|(with_reducible apply f6);rfl;rfl|(with_reducible apply d6 hS b8);rfl;rfl;rfl;clear hS;intro g w' hS|(with_reducible apply d5 hS b8 (i:=0));(iterate 8 rfl);exact (rfl:_=[_,_,_]);clear hS;intro w' hS;simp only [List.set] at hS|(with_reducible apply d7);rfl;all_goals (intro hb hp;try (exfalso;omega))|focus ((with_reducible apply e6 _ _ _ (by kernel_rfl) (by kernel_rfl) hS);(repeat' ((first|(with_reducible apply j3 b8);rfl;rfl|(with_reducible apply j0);rfl;(intro wd hd;replace hd:St _ _ wd _:=hd;(apply Ld.sc b8;rfl;exact hd.blkC 0 rfl rfl));rfl|(first|(with_reducible apply a0g);(iterate 4 rfl);assumption|(with_reducible apply a18);(iterate 4 rfl);(first|rfl|assumption);rfl|(with_reducible apply a1X);(iterate 5 rfl)|(with_reducible apply a0c);rfl;rfl;rfl;all_goals (intro hb hp;try (exfalso;omega))|(with_reducible apply p9);rfl;(first|rfl|assumption);rfl;rfl|(with_reducible apply p7);rfl;assumption;rfl;rfl))));all_goals ((with_reducible apply k8);intro w' hS';clear hS;have hS:=hS';clear hS')))
   ·(refine j4 rfl ?_)
    refine ⟨?_,hS.sub (xh2 _)⟩;rw [no fun h=>by have:=(h.rels i x hx).1;omega]
   ·(refine j4 rfl ?_)
    refine ⟨?_,hS.sub (xh2 _)⟩;rw [no fun h=>by have:=(h.rels i x hx).1;omega]
   ·have hst:∀ q,0 < i->I.rels[i - 1]?=some q->q.at_ + 8<=x.at_:=fun q h=>by omega
    refine a0p hS 64 [1,8,34,32,33] rfl 8 (fun b=>∀ c:Int,0<=c->c < b->(own I.segs (x.at_ + c)).isSome=true) 0 rfl (by omega) (by intros;omega) ?_;rintro b2 w1 hi2 hall2 hS';clear hS;have hS:=hS';clear hS';by_cases hlt2:b2 < 8
    ·repeat' (first|(with_reducible apply b9 b8);rfl;rfl;rfl|(with_reducible apply c9);rfl;(first|apply Ld.sc b8;rfl;exact hS.blkC 0 rfl rfl|apply Ld.st b8;rfl;exact hS.blkR 1 rfl;rfl);rfl|(with_reducible apply f9);rfl;rfl;omega;omega;rfl|refine yDn (by with_reducible constructor) ?_|(with_reducible apply d6 hS b8);rfl;rfl;rfl;clear hS;intro g w' hS|(with_reducible apply d5 hS b8 (i:=0));(iterate 8 rfl);exact (rfl:_=[_,_,_,_,_]);clear hS;intro w' hS;simp only [List.set] at hS|(with_reducible apply d7);rfl;all_goals (intro hb hp;try (exfalso;omega))|(with_reducible apply a97);rfl;all_goals (intro hb hp;try (exfalso;omega))|(with_reducible apply d8 hS);rfl;rfl;rfl;refine ⟨_,b1Z (x.at_ + b2) (hI.now hS) hok,?_⟩;clear hS;intro w' hS)
     ·(refine j4 rfl ?_)
      refine ⟨?_,hS.sub (xh2 _)⟩;rw [no fun h=>by have:=(h.rels i x hx).2 b2 (by omega) (by omega);rw [this] at hb;cases hb]
     ·refine v9 (b2 + 1) (by exact Fr.sub_of rfl) (by omega) (fun c h1 h2=>?_) (by omega) hS.drop;by_cases e:c=b2
      ·subst e;exact a4z hb
      ·exact hall2 c h1 (by omega)
    ·repeat' (first|(with_reducible apply b9 b8);rfl;rfl;rfl|(with_reducible apply f9);rfl;rfl;omega;omega;rfl|refine yDn (by with_reducible constructor) ?_|(with_reducible apply d7);rfl;all_goals (intro hb hp;try (exfalso;omega)))
     exact v9 (i + 1) (by exact Fr.sub_of rfl) (by omega) (hall.succ hx (by omega) (fun c h1 h2=>hall2 c h1 (by omega)) hst) (by omega) hS.drop
  ·obtain ⟨y,hy⟩:=i9 (l:=I.rels) (i:=i - 1) (by omega);have hrow2:=d9 (f:=rlC) hy;have hix:((i - 1:Nat):Int)=(i:Int) - 1:=by omega
   obtain ⟨⟨y1,y2⟩,-⟩:=hall.rels (i - 1) y (by omega) hy
   repeat' (first|(with_reducible apply b9 b8);rfl;rfl;rfl|(with_reducible apply c9);rfl;(apply Ld.st b8;rfl;exact hS.roR (by assumption) (by assumption);rfl);rfl|(with_reducible apply l8 b8);rfl;rfl;rfl;rfl;omega;rfl|refine yDn (by with_reducible constructor) ?_|(with_reducible apply e8);rfl;rfl|(with_reducible apply d6 hS b8);rfl;rfl;rfl;clear hS;intro g w' hS|(with_reducible apply d5 hS b8 (i:=0));(iterate 8 rfl);exact (rfl:_=[_,_,_]);clear hS;intro w' hS;simp only [List.set] at hS|(with_reducible apply d7);rfl;all_goals (intro hb hp;try (exfalso;omega))|focus ((with_reducible apply e6 _ _ _ (by kernel_rfl) (by kernel_rfl) hS);(repeat' ((first|(with_reducible apply a12);rfl;rfl;omega;omega;rfl|(with_reducible apply a1G);rfl;rfl;omega;omega;rfl|(with_reducible apply j3 b8);rfl;rfl|(with_reducible apply j0);rfl;(intro wd hd;replace hd:St _ _ wd _:=hd;(first|apply Ld.sc b8;rfl;(first|exact hd.blkC 0 rfl rfl|exact hd.roC0 (by assumption) (by assumption) rfl)|apply Ld.sl b8;rfl;exact hd.blkC 1 rfl rfl));rfl|(with_reducible apply a0s b8);rfl;rfl;rfl;assumption;omega;rfl|(first|(with_reducible apply a0g);(iterate 4 rfl);assumption|(with_reducible apply a18);(iterate 4 rfl);(first|rfl|assumption);rfl|(with_reducible apply a1X);(iterate 5 rfl)|(with_reducible apply a0c);rfl;rfl;rfl;all_goals (intro hb hp;try (exfalso;omega))|(with_reducible apply p9);rfl;(first|rfl|assumption);rfl;rfl|(with_reducible apply p7);rfl;assumption;rfl;rfl))));all_goals ((with_reducible apply k8);intro w' hS';clear hS;have hS:=hS';clear hS')))
   ·(refine j4 rfl ?_)
    refine ⟨?_,hS.sub (xh2 _)⟩;rw [no fun h=>by have:=(h.rels i x hx).1;omega]
   ·(refine j4 rfl ?_)
    refine ⟨?_,hS.sub (xh2 _)⟩;rw [no fun h=>by have:=(h.rels i x hx).1;omega]
   ·(refine j4 rfl ?_)
    refine ⟨?_,hS.sub (xh2 _)⟩;rw [no fun h=>by have:=h.step (i - 1) y x hy (by rw [show i - 1 + 1=i by omega];exact hx);omega]
   ·have hst:∀ q,0 < i->I.rels[i - 1]?=some q->q.at_ + 8<=x.at_:=fun q _ h=>by rw [hy] at h;cases h;omega
    refine a0p hS 64 [1,8,34,32,33] rfl 8 (fun b=>∀ c:Int,0<=c->c < b->(own I.segs (x.at_ + c)).isSome=true) 0 rfl (by omega) (by intros;omega) ?_;rintro b2 w1 hi2 hall2 hS';clear hS;have hS:=hS';clear hS';by_cases hlt2:b2 < 8
    ·repeat' (first|(with_reducible apply b9 b8);rfl;rfl;rfl|(with_reducible apply c9);rfl;(first|apply Ld.sc b8;rfl;exact hS.blkC 0 rfl rfl|apply Ld.st b8;rfl;exact hS.blkR 1 rfl;rfl);rfl|(with_reducible apply f9);rfl;rfl;omega;omega;rfl|refine yDn (by with_reducible constructor) ?_|(with_reducible apply d6 hS b8);rfl;rfl;rfl;clear hS;intro g w' hS|(with_reducible apply d5 hS b8 (i:=0));(iterate 8 rfl);exact (rfl:_=[_,_,_,_,_]);clear hS;intro w' hS;simp only [List.set] at hS|(with_reducible apply d7);rfl;all_goals (intro hb hp;try (exfalso;omega))|(with_reducible apply a97);rfl;all_goals (intro hb hp;try (exfalso;omega))|(with_reducible apply d8 hS);rfl;rfl;rfl;refine ⟨_,b1Z (x.at_ + b2) (hI.now hS) hok,?_⟩;clear hS;intro w' hS)
     ·(refine j4 rfl ?_)
      refine ⟨?_,hS.sub (xh2 _)⟩;rw [no fun h=>by have:=(h.rels i x hx).2 b2 (by omega) (by omega);rw [this] at hb;cases hb]
     ·refine v9 (b2 + 1) (by exact Fr.sub_of rfl) (by omega) (fun c h1 h2=>?_) (by omega) hS.drop;by_cases e:c=b2
      ·subst e;exact a4z hb
      ·exact hall2 c h1 (by omega)
    ·repeat' (first|(with_reducible apply b9 b8);rfl;rfl;rfl|(with_reducible apply f9);rfl;rfl;omega;omega;rfl|refine yDn (by with_reducible constructor) ?_|(with_reducible apply d7);rfl;all_goals (intro hb hp;try (exfalso;omega)))
     exact v9 (i + 1) (by exact Fr.sub_of rfl) (by omega) (hall.succ hx (by omega) (fun c h1 h2=>hall2 c h1 (by omega)) hst) (by omega) hS.drop
 ·have hall':PlR I I.rels.length:=by rw [show I.rels.length=i by omega];exact hall
  cases ho:own I.segs I.entry with
  |none=>
   repeat' (first|(with_reducible apply b9 b8);rfl;rfl;rfl|(with_reducible apply c9);rfl;(first|apply Ld.sc b8;rfl;exact hS.blkC 0 rfl rfl|apply Ld.st b8;rfl;exact hS.blkR 0 rfl;rfl);rfl|refine yDn (by with_reducible constructor) ?_|(with_reducible apply q8);(iterate 4 rfl);rfl;rfl|(with_reducible apply i7);rfl;rfl;rfl;rfl|(with_reducible apply e8);rfl;rfl|(with_reducible apply d6 hS b8);rfl;rfl;rfl;clear hS;intro g w' hS|(with_reducible apply d5 hS b8 (i:=0));(iterate 8 rfl);exact (rfl:_=[_,_,_,_,_]);clear hS;intro w' hS;simp only [List.set] at hS|(with_reducible apply d7);rfl;all_goals (intro hb hp;try (exfalso;omega))|(with_reducible apply d8 hS);rfl;rfl;rfl;refine ⟨_,b6V ho (hI.now hS) hok,?_⟩;clear hS;intro w' hS)
   (refine j4 rfl ?_)
   refine ⟨?_,hS.sub (xh2 _)⟩;rw [no fun h=>by obtain ⟨s,hs,_⟩:=h.entry;rw [ho] at hs;cases hs]
  |some s=>
   have hpos:=b6E hok ho
   repeat' (first|(with_reducible apply b9 b8);rfl;rfl;rfl|(with_reducible apply c9);rfl;(first|apply Ld.sc b8;rfl;(first|exact hS.blkC 0 rfl rfl|exact hS.blkC 1 rfl rfl)|apply Ld.st b8;rfl;exact hS.blkR 0 rfl;rfl);rfl|refine yDn (by with_reducible constructor) ?_|((with_reducible apply k6);(iterate 4 rfl);first|rfl|assumption)|(with_reducible apply q8);(iterate 4 rfl);assumption;rfl|(with_reducible apply i7);rfl;assumption;rfl;rfl|(with_reducible apply e9);rfl;(first|rfl|assumption);rfl;rfl|(with_reducible apply e8);rfl;rfl|(with_reducible apply d6 hS b8);rfl;rfl;rfl;clear hS;intro g w' hS|(with_reducible apply d5 hS b8 (i:=0));(iterate 8 rfl);exact (rfl:_=[_,_,_,_,_]);clear hS;intro w' hS;simp only [List.set] at hS|(with_reducible apply b1K);rfl;rfl;rfl;all_goals (intro hb hp;try (exfalso;omega))|(with_reducible apply d7);rfl;all_goals (intro hb hp;try (exfalso;omega))|(with_reducible apply a0K);rfl;all_goals (intro hb hp;try (exfalso;omega))|(with_reducible apply d8 hS);rfl;rfl;rfl;refine ⟨_,b6V ho (hI.now hS) hok,?_⟩;clear hS;intro w' hS|(with_reducible apply a2q);rfl;rfl;omega;rfl)
   ·(refine j4 rfl ?_)
    refine ⟨?_,hS.sub (xh2 _)⟩;rw [no fun h=>by obtain ⟨s',hs,he⟩:=h.entry;rw [ho] at hs;cases hs;have hb':(!s.ex)=true:=hb;rw [he] at hb';cases hb']
   ·(refine j4 rfl ?_)
    refine ⟨?_,hS.sub (xh2 _)⟩;rw [no fun h=>hp h.by8]
   ·(refine j4 rfl ?_)
    refine ⟨?_,hS.sub (xh2 _)⟩;rw [xf0];refine a41 ⟨fun s hs=>xc7.1 hsy s hs,fun k r hr=>hall'.rels k r (e7 hr) hr,fun k q r hq hr=>hall'.step k q r (e7 hr) hq hr,⟨s,ho,?_⟩,hp⟩;rename_i hb1 hp1;have hb2:(!s.ex)=false:=hb1
    simpa using hb2
theorem Fn.eqv {P:Program} {f:FuncId} {args:List Value} {x y:Value} {w:World} (e:x=y) (h:Fn P f args w (RBf x w)):Fn P f args w (RBf y w):=e ▸ h
theorem a1q {p:Bool} {a b:Int} (h:p=true):Value.int .i64 (if p=true then a else b)=.int .i64 a:=by rw [xf0 h]
theorem a6S {p:Bool} {a b:Int} (h:p=false):Value.int .i64 (if p=true then a else b)=.int .i64 b:=by rw [xf1 (by rw [h];simp)]
def ImD (I:Im):Prop:=∀ s ∈ I.segs,(s.data.length:Int)<=9223372036854775807
theorem a9z {I:Im} {w:World} {vn vs vy vr:Value} (hI:ImV w I vn vs vy vr) (hB:ImB I) (hD:ImD I):Fn Tryz.prog 38 [imA I vn vs vy vr] w (RBf (.int .i64 (t9 I)) w):=by
 refine yEn Tryz.func38 Tryz.ntmps38 (by kernel_rfl) (by kernel_rfl) rfl rfl ?_;have hS:=St.start w
 repeat' (first|(with_reducible apply b9 b8);rfl;rfl;rfl|refine yDn (by with_reducible constructor) ?_|(with_reducible apply k9 hS);rfl;rfl;rfl;clear hS;intro g w' hS|(with_reducible apply a0E hS b8);(iterate 7 rfl);clear hS;intro g w' hS)
 refine a7b 6 ?_
 cases h1:a9F I
 ·repeat' (first|(with_reducible apply b9 b8);rfl;rfl;rfl|(with_reducible apply c9);rfl;(apply Ld.st b8;rfl;exact hS.blkR 1 rfl;rfl);rfl|(with_reducible apply l8 b8);rfl;rfl;rfl;rfl;(simp only [xh1,xb3,xa2,xe9];omega);rfl|refine yDn (by with_reducible constructor) ?_|(with_reducible apply e8);rfl;rfl|with_reducible apply a2J|(with_reducible apply c9);rfl;(apply Ld.sc b8;rfl;exact hS.rowC0 0 rfl rfl rfl);rfl|(with_reducible apply d8 hS);rfl;rfl;rfl;refine ⟨_,Fn.eqv (a6S h1) (a23 (hI.now hS) hB),?_⟩;clear hS;intro w' hS)
  (refine j4 rfl ?_)
  exact ⟨by rw [t9,xf0 h1],hS.sub (xh2 _)⟩
 cases h2:b0o I
 ·repeat' (first|(with_reducible apply b9 b8);rfl;rfl;rfl|(with_reducible apply c9);rfl;(apply Ld.st b8;rfl;exact hS.blkR 1 rfl;rfl);rfl|(with_reducible apply l8 b8);rfl;rfl;rfl;rfl;(simp only [xh1,xb3,xa2,xe9];omega);rfl|(with_reducible apply f9);rfl;rfl;omega;omega;rfl|refine yDn (by with_reducible constructor) ?_|(with_reducible apply e8);rfl;rfl|(with_reducible apply f6);rfl;rfl|with_reducible apply a2s|with_reducible apply a2J|(with_reducible apply c9);rfl;(apply Ld.sc b8;rfl;exact hS.rowC0 0 rfl rfl rfl);rfl|(with_reducible apply d8 hS);rfl;rfl;rfl;refine ⟨_,Fn.eqv (a1q h1) (a23 (hI.now hS) hB),?_⟩;clear hS;intro w' hS|(with_reducible apply d8 hS);rfl;rfl;rfl;refine ⟨_,Fn.eqv (a6S h2) (a20 (hI.now hS)),?_⟩;clear hS;intro w' hS)
  (refine j4 rfl ?_)
  exact ⟨by simp [t9,h1,h2],hS.sub (xh2 _)⟩
 cases h3:a5y I
 ·repeat' (first|(with_reducible apply b9 b8);rfl;rfl;rfl|(with_reducible apply c9);rfl;(apply Ld.st b8;rfl;exact hS.blkR 1 rfl;rfl);rfl|(with_reducible apply l8 b8);rfl;rfl;rfl;rfl;(simp only [xh1,xb3,xa2,xe9];omega);rfl|(with_reducible apply f9);rfl;rfl;omega;omega;rfl|refine yDn (by with_reducible constructor) ?_|(with_reducible apply e8);rfl;rfl|(with_reducible apply f6);rfl;rfl|with_reducible apply a2s|with_reducible apply a2J|(with_reducible apply c9);rfl;(apply Ld.sc b8;rfl;exact hS.rowC0 0 rfl rfl rfl);rfl|(with_reducible apply d8 hS);rfl;rfl;rfl;refine ⟨_,Fn.eqv (a1q h1) (a23 (hI.now hS) hB),?_⟩;clear hS;intro w' hS|(with_reducible apply d8 hS);rfl;rfl;rfl;refine ⟨_,Fn.eqv (a1q h2) (a20 (hI.now hS)),?_⟩;clear hS;intro w' hS|(with_reducible apply d8 hS);rfl;rfl;rfl;refine ⟨_,Fn.eqv (a6S h3) (a2C (hI.now hS) hD),?_⟩;clear hS;intro w' hS)
  (refine j4 rfl ?_)
  exact ⟨by simp [t9,h1,h2,h3],hS.sub (xh2 _)⟩
 cases h4:a7u I
 ·repeat' (first|(with_reducible apply b9 b8);rfl;rfl;rfl|(with_reducible apply c9);rfl;(apply Ld.st b8;rfl;exact hS.blkR 1 rfl;rfl);rfl|(with_reducible apply l8 b8);rfl;rfl;rfl;rfl;(simp only [xh1,xb3,xa2,xe9];omega);rfl|(with_reducible apply f9);rfl;rfl;omega;omega;rfl|refine yDn (by with_reducible constructor) ?_|(with_reducible apply e8);rfl;rfl|(with_reducible apply f6);rfl;rfl|with_reducible apply a2s|with_reducible apply a2J|(with_reducible apply c9);rfl;(apply Ld.sc b8;rfl;exact hS.rowC0 0 rfl rfl rfl);rfl|(with_reducible apply d8 hS);rfl;rfl;rfl;refine ⟨_,Fn.eqv (a1q h1) (a23 (hI.now hS) hB),?_⟩;clear hS;intro w' hS|(with_reducible apply d8 hS);rfl;rfl;rfl;refine ⟨_,Fn.eqv (a1q h2) (a20 (hI.now hS)),?_⟩;clear hS;intro w' hS|(with_reducible apply d8 hS);rfl;rfl;rfl;refine ⟨_,Fn.eqv (a1q h3) (a2C (hI.now hS) hD),?_⟩;clear hS;intro w' hS|(with_reducible apply d8 hS);rfl;rfl;rfl;refine ⟨_,Fn.eqv (a6S h4) (a7n (hI.now hS) hB h3),?_⟩;clear hS;intro w' hS)
  (refine j4 rfl ?_)
  exact ⟨by simp [t9,h1,h2,h3,h4],hS.sub (xh2 _)⟩
 cases h5:a9H I
 ·repeat' (first|(with_reducible apply b9 b8);rfl;rfl;rfl|(with_reducible apply c9);rfl;(apply Ld.st b8;rfl;exact hS.blkR 1 rfl;rfl);rfl|(with_reducible apply l8 b8);rfl;rfl;rfl;rfl;(simp only [xh1,xb3,xa2,xe9];omega);rfl|(with_reducible apply f9);rfl;rfl;omega;omega;rfl|refine yDn (by with_reducible constructor) ?_|(with_reducible apply e8);rfl;rfl|(with_reducible apply f6);rfl;rfl|with_reducible apply a2s|with_reducible apply a2J|(with_reducible apply c9);rfl;(apply Ld.sc b8;rfl;exact hS.rowC0 0 rfl rfl rfl);rfl|(with_reducible apply d8 hS);rfl;rfl;rfl;refine ⟨_,Fn.eqv (a1q h1) (a23 (hI.now hS) hB),?_⟩;clear hS;intro w' hS|(with_reducible apply d8 hS);rfl;rfl;rfl;refine ⟨_,Fn.eqv (a1q h2) (a20 (hI.now hS)),?_⟩;clear hS;intro w' hS|(with_reducible apply d8 hS);rfl;rfl;rfl;refine ⟨_,Fn.eqv (a1q h3) (a2C (hI.now hS) hD),?_⟩;clear hS;intro w' hS|(with_reducible apply d8 hS);rfl;rfl;rfl;refine ⟨_,Fn.eqv (a1q h4) (a7n (hI.now hS) hB h3),?_⟩;clear hS;intro w' hS|(with_reducible apply d8 hS);rfl;rfl;rfl;refine ⟨_,Fn.eqv (a6S h5) (a7P (hI.now hS) h3),?_⟩;clear hS;intro w' hS)
  (refine j4 rfl ?_)
  exact ⟨by simp [t9,h1,h2,h3,h4,h5],hS.sub (xh2 _)⟩
 ·repeat' (first|(with_reducible apply b9 b8);rfl;rfl;rfl|(with_reducible apply c9);rfl;(apply Ld.st b8;rfl;exact hS.blkR 1 rfl;rfl);rfl|(with_reducible apply l8 b8);rfl;rfl;rfl;rfl;(simp only [xh1,xb3,xa2,xe9];omega);rfl|(with_reducible apply f9);rfl;rfl;omega;omega;rfl|refine yDn (by with_reducible constructor) ?_|(with_reducible apply e8);rfl;rfl|(with_reducible apply f6);rfl;rfl|with_reducible apply a2s|with_reducible apply a2J|(with_reducible apply c9);rfl;(apply Ld.sc b8;rfl;exact hS.rowC0 0 rfl rfl rfl);rfl|(with_reducible apply d8 hS);rfl;rfl;rfl;refine ⟨_,Fn.eqv (a1q h1) (a23 (hI.now hS) hB),?_⟩;clear hS;intro w' hS|(with_reducible apply d8 hS);rfl;rfl;rfl;refine ⟨_,Fn.eqv (a1q h2) (a20 (hI.now hS)),?_⟩;clear hS;intro w' hS|(with_reducible apply d8 hS);rfl;rfl;rfl;refine ⟨_,Fn.eqv (a1q h3) (a2C (hI.now hS) hD),?_⟩;clear hS;intro w' hS|(with_reducible apply d8 hS);rfl;rfl;rfl;refine ⟨_,Fn.eqv (a1q h4) (a7n (hI.now hS) hB h3),?_⟩;clear hS;intro w' hS|(with_reducible apply d8 hS);rfl;rfl;rfl;refine ⟨_,Fn.eqv (a1q h5) (a7P (hI.now hS) h3),?_⟩;clear hS;intro w' hS)
  (refine j4 rfl ?_)
  exact ⟨by simp [t9,h1,h2,h3,h4,h5],hS.sub (xh2 _)⟩
def b6U (M:Ob) (Lb:List Ob) (v:Value) (w w':World):Prop :=
 (a4S M Lb≠0/\v=.tuple #[lkA (.slice none 0 0) (.slice none 0 0) 0,.int .i64 (a4S M Lb)]/\St nF w w' []) \/
 (a4S M Lb=0/\∃ (s:List Ob×Int) (va vs:Value) (N:List (Sh×Value)),a3X (M::Lb) 8 0 (x6 ([],1) M)=some s/\N.map (·.1)=a5u (obP s.1) s.1/\v=.tuple #[lkA va vs (16 + M.im.entry),.int .i64 0]/\St nF w w' (.row 81 4 va ((a3Y s.1).map arC)::.row 94 3 vs (N.map fun p=>shC p.1 p.2)::N.map a3l))
def kvI (o:Ob):Value×Value:=(stK o.im.name,a7z o)
def MapB (B:List Ob) (i:Nat) (L:List (Value×Value)):Prop:=(((B.take i).map fun o=>o.im.name).Nodup->L=(B.take i).map kvI)/\(¬ ((B.take i).map fun o=>o.im.name).Nodup->L.length < i)/\L.length<=i
theorem MapB.start (B:List Ob):MapB B 0 []:=⟨fun _=>rfl,fun h=>absurd (by simp) h,xd4 _⟩
theorem MapB.mem {B:List Ob} {i:Nat} {L:List (Value×Value)} (h:L=(B.take i).map kvI) (nm:List UInt8):(∃ v,(stK nm,v) ∈ L) ↔ nm ∈ (B.take i).map fun o=>o.im.name:=by
 rw [h];constructor
 ·rintro ⟨v,hv⟩;obtain ⟨o,ho,e⟩:=xh0.1 hv;have e1:=congrArg Prod.fst e;unfold kvI stK at e1;exact xh0.2 ⟨o,ho,by simpa using e1⟩
 ·intro hn;obtain ⟨o,ho,rfl⟩:=xh0.1 hn;exact ⟨a7z o,xh0.2 ⟨o,ho,rfl⟩⟩
theorem b15 {α:Type} {l:List α} {x:α}:(l++[x]).Nodup ↔ l.Nodup/\x ∉ l:=by
 rw [xq6];constructor
 ·rintro ⟨h1,-,h3⟩;exact ⟨h1,fun h=>h3 x h x (by simp) rfl⟩
 ·rintro ⟨h1,h2⟩;refine ⟨h1,by simp,fun a ha b hb=>?_⟩;have:b=x:=by simpa using hb
  subst this;rintro rfl;exact h2 ha
theorem MapB.new {B:List Ob} {i:Nat} {L:List (Value×Value)} {o:Ob} (h:MapB B i L) (ho:B[i]?=some o) (hn:∀ v,(stK o.im.name,v) ∉ L):MapB B (i + 1) (L++[kvI o]):=by
 unfold MapB;rw [xp5,ho];simp only [xm9,xk1,xc2,xq7,xe9,xb3,xa2];rw [b15];refine ⟨fun ⟨h1,h2⟩=>by rw [h.1 h1],fun hno=>?_,by have:=h.2.2;omega⟩;by_cases h1:((B.take i).map fun o=>o.im.name).Nodup
 ·exfalso;have hin:o.im.name ∈ (B.take i).map fun o=>o.im.name:=Classical.byContradiction fun hc=>hno ⟨h1,hc⟩;obtain ⟨v,hv⟩:=(MapB.mem (h.1 h1) o.im.name).2 hin;exact hn v hv
 ·have:=h.2.1 h1;omega
theorem MapB.old {B:List Ob} {i j:Nat} {L:List (Value×Value)} {o:Ob} {u:Value} {x:Value×Value} (h:MapB B i L) (ho:B[i]?=some o) (hu:(stK o.im.name,u) ∈ L):MapB B (i + 1) (L.set j x):=by
 unfold MapB;rw [xp5,ho];simp only [xm9,xk1,xc2,xq7,xa8];rw [b15];refine ⟨fun ⟨h1,h2⟩=>absurd ((MapB.mem (h.1 h1) o.im.name).1 ⟨u,hu⟩) h2,fun hno=>?_,by have:=h.2.2;omega⟩;have:=h.2.2;omega
theorem a8w:∀ {l:List Ob},(∀ o ∈ l,b1A o.im)->0<=a1Z l/\a1Z l<=255 * l.length
 |[],_=>by simp [a1Z]
 |o::l,h=>by
  have h1:=a7s (h o (by simp));have h2:=a8w (l:=l) fun x hx=>h x (xc6 _ hx);simp only [a1Z,xb3];omega
theorem b7Q {α:Type} (A B C:List α) (x y z:α):((A++B)++(x::y::z::C)).Perm (x::y::z::(A++(C++B))):=by
 refine List.perm_append_comm.trans ?_;simp only [List.cons_append];exact (((List.perm_append_comm_assoc C A B).cons _).cons _).cons _
theorem b1l {B:List Ob} {i:Nat} {o:Ob} {p:Ob->Bool} (h:∀ x ∈ B.take i,p x=false) (ho:B[i]?=some o) (hp:p o=true):B.find? p=some o:=by
 have e:B=B.take i++o::B.drop (i + 1):=by
  conv=>lhs;rw [<- xm4 i B,a2z ho]
 rw [e,List.find?_append];have:(B.take i).find? p=none:=by
  rw [xj0];intro t ht;rw [h t ht];simp
 rw [this,Option.none_or,xq1,hp]
theorem b6A {w:World} {M:Ob} {Lb:List Ob} {vl:Value} (hM:ObV w M) (hL:Sl nF w 6 vl (Lb.map imR)) (hLo:∀ o ∈ Lb,ObV w o) (hB:∀ o ∈ M::Lb,ImB o.im/\ImD o.im):Fn Tryz.prog 9 [a7z M,vl] w (fun v w'=>b6U M Lb v w w'):=by
 have hbl:=hL.bound;obtain ⟨pl,cl,rfl⟩:=hL.len;have hall:∀ o ∈ M::Lb,ObV w o:=fun o ho=>by
  rcases xc4.1 ho with rfl|h
  ·exact hM
  ·exact hLo o h
 have hM1:=hM;obtain ⟨I,vn,vs,vy,vr,a0⟩:=M;replace hM1:ImV w I vn vs vy vr:=hM1;obtain ⟨pn,cn,rfl⟩:=hM1.needs.len;obtain ⟨ps,cs,rfl⟩:=hM1.segs.len;obtain ⟨py,cy,rfl⟩:=hM1.syms.len;obtain ⟨pr,cr,rfl⟩:=hM1.rels.len;refine yEn Tryz.func9 Tryz.ntmps9 (by kernel_rfl) (by kernel_rfl) rfl rfl ?_;have hS:=St.start w;show WC _ _ _ _ _ [(0,.agg [.string ⟨I.name.toArray⟩,.slice pn I.needs.length cn,.slice ps I.segs.length cs,.slice py I.syms.length cy,.slice pr I.rels.length cr,.int .i64 I.entry].toArray),(1,.slice pl Lb.length cl)] _;by_cases h6:6 < Lb.length
 ·repeat' (first|(with_reducible apply b9 b8);rfl;rfl;rfl|(with_reducible apply l6 b8);rfl;rfl;exact (rfl:_=some [_,_,_]);rfl|refine yDn (by with_reducible constructor) ?_|(with_reducible apply k9 hS);rfl;rfl;rfl;clear hS;intro g w' hS|(with_reducible apply d6 hS b8);rfl;rfl;rfl;clear hS;intro g w' hS|(with_reducible apply d5 hS b8 (i:=0));(iterate 8 rfl);exact (rfl:_=[_,_,_]);clear hS;intro w' hS;simp only [List.set] at hS|(with_reducible apply d7);rfl;all_goals (intro hb hp;try (exfalso;omega)))
  (apply a05;repeat (first|exact ResL.nil|apply ResL.tmp;rfl|apply ResL.cell;rfl;(apply Ld.st b8;rfl;exact hS.blkR 0 rfl;rfl)))
  refine xd6 ⟨?_,?_,hS.sub (xh2 _)⟩
  ·unfold a4S;rw [xf0 h6]
   decide
  ·unfold a4S;rw [xf0 h6];rfl
 repeat' (first|(with_reducible apply b9 b8);rfl;rfl;rfl|(with_reducible apply c9);rfl;(apply Ld.st b8;rfl;exact hS.blkR 4 rfl;rfl);rfl|(with_reducible apply l6 b8);rfl;rfl;exact (rfl:_=some [_,_,_,_]);rfl|refine yDn (by with_reducible constructor) ?_|(with_reducible apply k9 hS);rfl;rfl;rfl;clear hS;intro g w' hS|(with_reducible apply d6 hS b8);rfl;rfl;rfl;clear hS;intro g w' hS|(with_reducible apply a0E hS b8);(iterate 7 rfl);clear hS;intro g w' hS|(with_reducible apply d7);rfl;all_goals (intro hb hp;try (exfalso;omega))|(with_reducible apply z8);rfl;exact a7X hS;rintro _ w' ⟨r,rfl,hS'⟩;clear hS;have hS:=hS';clear hS')
 rename_i g2 w1 g4 w2 w3 rb w4 gw w5 g1 w6;obtain ⟨B,hBe⟩:∃ B,B=(⟨I,.slice pn I.needs.length cn,.slice ps I.segs.length cs,.slice py I.syms.length cy,.slice pr I.rels.length cr,a0⟩:Ob)::Lb:=⟨_,rfl⟩;have hBl:B.length=Lb.length + 1:=by rw [hBe];rfl
 ((with_reducible apply y7);rfl;rfl;exact b6C (hS.rowRo 0 rfl) (hS.rowSl 1 rfl) (hL.now hS) (by simp) (by rw [xh1];omega);rfl;rintro u w' hS';replace hS:=hS.transA hS';simp only [s7] at hS;clear hS')
 replace hS:=St.reorder [5,0,3,4,6,7] hS (by decide) rfl;replace hS:St nF w w' (.obj rb (.map #[] 0)::[.row 27 6 u (B.map imR),.blk gw [.map (some rb),.map (some r),.slice none 0 0,.int .i64 1],.obj r (.map #[] 0),.blk g4 [.slice none 0 0,.slice none 0 0,.int .i64 0],.blk g2 [.string ⟨I.name.toArray⟩,.slice pn I.needs.length cn,.slice ps I.segs.length cs,.slice py I.syms.length cy,.slice pr I.rels.length cr,.int .i64 I.entry]]):=by rw [hBe];exact hS
 obtain ⟨pu,cu,rfl⟩:=hS.rowSlice 1 rfl;rw [xh1] at hS |-;have hallB:∀ o ∈ B,ObV w o:=by rw [hBe];exact hall
 have hBB:∀ o ∈ B,ImB o.im/\ImD o.im:=by rw [hBe];exact hB
 have hcode:a4S ⟨I,.slice pn I.needs.length cn,.slice ps I.segs.length cs,.slice py I.syms.length cy,.slice pr I.rels.length cr,a0⟩ Lb=match B.find? (fun o=>!decide (t9 o.im=0)) with
  |some o=>t9 o.im
  |none=>if (B.map fun o=>o.im.name).Nodup then
    match a3X B 8 0 (x6 ([],1) ⟨I,.slice pn I.needs.length cn,.slice ps I.segs.length cs,.slice py I.syms.length cy,.slice pr I.rels.length cr,a0⟩) with
    |none=>6
    |some s=>if s.2 > 256 then 3 else if a6g (obP s.1) s.1=true then 0 else 7
   else 5:=by
  unfold a4S;rw [xf1 h6,hBe];rfl
 unfold b6U;rw [hcode,<- hBe];have hB7:B.length<=7:=by omega
 have hMB0:(⟨I,.slice pn I.needs.length cn,.slice ps I.segs.length cs,.slice py I.syms.length cy,.slice pr I.rels.length cr,a0⟩:Ob) ∈ B:=by rw [hBe];exact xc5
 clear hcode hall hLo hL hM hM1 hB h6
 repeat' (first|(with_reducible apply b9 b8);rfl;rfl;rfl|refine yDn (by with_reducible constructor) ?_)
 refine l4 (X:=Nat×Array MapEntry×Nat×List (Value×Value)) (fun x=>[(31,.int .i64 (x.1:Nat))]) [2,4,6,7,29,30] rfl (fun x=>[.obj rb (.map x.2.1 x.2.2.1)]) (fun x=>x.1<=B.length/\MapG .string x.2.1 x.2.2.2/\MapB B x.1 x.2.2.2/\∀ o ∈ B.take x.1,(!decide (t9 o.im=0))=false) (fun x=>B.length - x.1) (0,#[],0,[]) (by exact Fr.sub_of rfl) ⟨xi5 _,MapG.nil _,MapB.start B,by simp⟩ hS ?_;clear hS;rintro ⟨i,es,c,L⟩ w7 ⟨hi,hG,hMB,hck⟩ hS;dsimp only [List.cons_append,List.nil_append] at hi hG hMB hck hS |-;by_cases hlt:i < B.length;rotate_left
 ·obtain rfl:i=B.length:=by omega
  rw [xa0 (xd4 _)] at hck;unfold MapB at hMB;rw [xa0 (xd4 _)] at hMB;have hfn:B.find? (fun o=>!decide (t9 o.im=0))=none:=by
   rw [xj0];intro x hx;rw [hck x hx];simp
  have hsz:=hG.size;rw [hfn];dsimp only;by_cases hnd:(B.map fun o=>o.im.name).Nodup;rotate_left
  ·have hlt2:=hMB.2.1 hnd;rw [xf1 hnd]
   repeat' (first|(with_reducible apply b9 b8);rfl;rfl;rfl|(with_reducible apply c9);rfl;(apply Ld.sc b8;rfl;exact hS.blkC 2 rfl rfl);rfl|(with_reducible apply l6 b8);rfl;rfl;exact (rfl:_=some [_,_,_]);rfl|refine yDn (by with_reducible constructor) ?_|(with_reducible apply d5 hS b8 (i:=4));(iterate 8 rfl);exact (rfl:_=[_,_,_]);clear hS;intro w' hS;simp only [List.set] at hS|(with_reducible apply d7);rfl;all_goals (intro hb hp;try (exfalso;omega))|(with_reducible apply z8);rfl;exact a9E hS (i:=0) a2m rfl rfl;rintro _ _ ⟨rfl,rfl⟩)
   (apply a05;repeat (first|exact ResL.nil|apply ResL.tmp;rfl|apply ResL.cell;rfl;(apply Ld.st b8;rfl;exact hS.blkR 4 rfl;rfl)))
   exact xd6 ⟨by decide,rfl,hS.sub (xh2 _)⟩
  rw [xf0 hnd];obtain rfl:=hMB.1 hnd;rw [xh1] at hsz
  repeat' (first|(with_reducible apply b9 b8);rfl;rfl;rfl|(with_reducible apply c9);rfl;(first|apply Ld.sc b8;rfl;exact hS.blkC 2 rfl rfl|apply Ld.st b8;rfl;exact hS.blkR 5 rfl;rfl);rfl|refine yDn (by with_reducible constructor) ?_|(with_reducible apply d7);rfl;all_goals (intro hb hp;try (exfalso;omega))|(with_reducible apply z8);rfl;exact a9E hS (i:=0) a2m rfl rfl;rintro _ _ ⟨rfl,rfl⟩)
  replace hS:=hS.addNil 112 7;replace hS:=St.reorder [3,4,0,1,5,6] hS (by decide) rfl;have hckB:∀ o ∈ B,t9 o.im=0:=fun o ho=>by
   have:=hck o ho;exact Classical.byContradiction fun hc=>by rw [xh9 hc] at this;cases this
  have hcall:=b7l (p:=none) (c:=0) (es:=#[]) (cc:=0) (rb:=rb) (rp:=r) (gw:=gw) (B:=B) (Γ:=[_,_]) hS ⟨[],MapG.nil _,rfl⟩ hG (fun o ho=>⟨(hallB o ho).needs.nowM (Γ:=[_,_]) hS,(hallB o ho).segs.nowM (Γ:=[_,_]) hS,(hallB o ho).syms.nowM (Γ:=[_,_]) hS,(hallB o ho).rels.nowM (Γ:=[_,_]) hS⟩) (fun o ho=>(a14 (hckB o ho)).1) hMB0 hB7;have hPk:∀ s,a3X B 8 0 (x6 ([],1) ⟨I,.slice pn I.needs.length cn,.slice ps I.segs.length cs,.slice py I.syms.length cy,.slice pr I.rels.length cr,a0⟩)=some s->PkI s/\Fst ⟨I,.slice pn I.needs.length cn,.slice ps I.segs.length cs,.slice py I.syms.length cy,.slice pr I.rels.length cr,a0⟩ s:=fun s hs=>⟨a9R (Inv:=PkI) (fun s o h _=>h.step o) hs (PkI.start.step _),a9R (Inv:=Fst _) (fun s o h _=>b41 o h) hs (b2F _)⟩;generalize hR:a3X B 8 0 (x6 ([],1) ⟨I,.slice pn I.needs.length cn,.slice ps I.segs.length cs,.slice py I.syms.length cy,.slice pr I.rels.length cr,a0⟩)=R at hcall hPk |-;clear hR hG hck hsz hMB hMB0 hlt
  ((with_reducible apply y7);rfl;rfl;exact hcall;rfl;rintro _ w' ⟨rfl,p',c',es',cc',s,hP,hA,hs,hS'⟩)
  replace hS:=St.transM (Θ:=LkM gw rb r none 0 #[] 0 ([],1)++[.obj rb (.map es c)]) (Γ:=[_,_]) hS hS';clear hS' hcall;simp only [LkM,LkS,List.cons_append,List.nil_append] at hS
  cases R with
  |none=>
   simp only [b7y]
   repeat' (first|(with_reducible apply b9 b8);rfl;rfl;rfl|(with_reducible apply l6 b8);rfl;rfl;exact (rfl:_=some [_,_,_]);rfl|refine yDn (by with_reducible constructor) ?_|(with_reducible apply e8);rfl;rfl|(with_reducible apply d5 hS b8 (i:=4));(iterate 8 rfl);exact (rfl:_=[_,_,_]);clear hS;intro w' hS;simp only [List.set] at hS)
   (apply a05;repeat (first|exact ResL.nil|apply ResL.tmp;rfl|apply ResL.cell;rfl;(apply Ld.st b8;rfl;exact hS.blkR 4 rfl;rfl)))
   exact xd6 ⟨by decide,rfl,hS.sub (xh2 _)⟩
  |some s'=>
   obtain rfl:=hs s' rfl;obtain ⟨hPk,hFs⟩:=hPk s rfl;simp only [b7y];by_cases h256:s.2 > 256
   ·rw [xf0 h256,xf0 h256]
    repeat' (first|(with_reducible apply b9 b8);rfl;rfl;rfl|(with_reducible apply l6 b8);rfl;rfl;exact (rfl:_=some [_,_,_]);rfl|refine yDn (by with_reducible constructor) ?_|(with_reducible apply e8);rfl;rfl|(with_reducible apply d5 hS b8 (i:=4));(iterate 8 rfl);exact (rfl:_=[_,_,_]);clear hS;intro w' hS;simp only [List.set] at hS)
    (apply a05;repeat (first|exact ResL.nil|apply ResL.tmp;rfl|apply ResL.cell;rfl;(apply Ld.st b8;rfl;exact hS.blkR 4 rfl;rfl)))
    exact xd6 ⟨by decide,rfl,hS.sub (xh2 _)⟩
   rw [xf1 h256,xf1 h256]
   repeat' (first|(with_reducible apply b9 b8);rfl;rfl;rfl|refine yDn (by with_reducible constructor) ?_|(with_reducible apply f6);rfl;rfl)
   obtain ⟨os,nx⟩:=s;dsimp only at hP hA hPk hFs h256 hS |-;obtain ⟨rs,hrs⟩:=hFs;dsimp only at hrs;have hAs:=hA.sub;have hAl:=hA.len;dsimp only at hAs hAl;have hosB:∀ o ∈ os,ImF nF w o/\t9 o.im=0:=fun o ho=>by
    obtain ⟨a,ha⟩:=hAs o ho;have h1:=hallB { o with at_:=a } ha;have h2:t9 o.im=0:=hckB { o with at_:=a } ha;exact ⟨⟨h1.needs,h1.segs,h1.syms,h1.rels⟩,h2⟩
   have hpos:0 < os.length:=by rw [hrs];simp
   obtain ⟨gos,rfl⟩:=hS.rowSome 2 rfl hpos;have hrow:(os.map obC)[0]?=some [.string ⟨I.name.toArray⟩,.slice pn I.needs.length cn,.slice ps I.segs.length cs,.slice py I.syms.length cy,.slice pr I.rels.length cr,.int .i64 I.entry,.int .i64 16]:=by rw [hrs];rfl
   have hent:0<=I.entry/\I.entry < 4096:=by
    have h1:=a14 (hosB _ (by rw [hrs];exact xc5)).2;obtain ⟨se,hse,-⟩:=h1.2.2.2.entry;exact a8s h1.1.s2 hse
   refine a4a 13 rfl hS (by kernel_rfl) ?_;intro wh hh;clear hS;have hS:=hh;clear hh
   ((with_reducible apply g8 (nn 0) b8);rfl;kernel_rfl;exact (fun _ _ _ h=>h);exact hS;rfl;rfl)
   ((with_reducible apply g8 (nn 1) b8);rfl;kernel_rfl;exact (fun _ _ _ h=>h);exact hS;rfl;rfl)
   ((with_reducible apply g8 (nn 2) b8);rfl;kernel_rfl;exact (fun _ _ _ h=>h);exact hS;rfl;rfl)
   ((with_reducible apply n5 (nn 3));rfl;kernel_rfl;exact (fun _ _ _ h=>h);exact hS;rfl;(intro wd hd;replace hd:St _ _ wd _:=hd;(apply Ld.sl b8;rfl;exact hd.blkC 0 rfl rfl));rfl)
   ((with_reducible apply b5d (nn 4) b8);rfl;kernel_rfl;kernel_rfl;kernel_rfl;exact (fun _ _ _ _ h=>h);exact hS;rfl;rfl;rfl;rfl;omega;rfl)
   ((with_reducible apply g8 (nn 5) b8);rfl;kernel_rfl;exact (fun _ _ _ h=>h);exact hS;rfl;rfl)
   ((with_reducible apply n5 (nn 6));rfl;kernel_rfl;exact (fun _ _ _ h=>h);exact hS;rfl;(intro wd hd;replace hd:St _ _ wd _:=hd;(apply Ld.sc b8;rfl;exact hd.rowCj 2 rfl (by assumption) rfl));rfl)
   ((with_reducible apply g8 (nn 7) b8);rfl;kernel_rfl;exact (fun _ _ _ h=>h);exact hS;rfl;rfl)
   ((with_reducible apply n5 (nn 8));rfl;kernel_rfl;exact (fun _ _ _ h=>h);exact hS;rfl;(intro wd hd;replace hd:St _ _ wd _:=hd;(apply Ld.sc b8;rfl;exact hd.blkC 5 rfl rfl));rfl)
   refine a2h (nn 9) rfl (by kernel_rfl) (by kernel_rfl) (by kernel_rfl) (fun _ _ _ h=>h) hS (fun a ha=>a9V rfl rfl (by omega) (by omega) a ha _) rfl ?_
   ((with_reducible apply p8 (nn 10) b8);rfl;kernel_rfl;kernel_rfl;kernel_rfl;exact (fun _ _ _ _ h=>h);exact hS;rfl;rfl;exact (rfl:_=some [_,_,_]);rfl)
   refine k7 (i:=11) (by kernel_rfl) ?_;refine j5 rfl (v6 hS b8 rfl rfl) rfl ?_;rintro _ w' ⟨g,rfl,hS'⟩;clear hS;have hS:=hS';clear hS';refine ⟨hS.drop,?_⟩;refine k7 (i:=12) (by kernel_rfl) ?_;refine l9 (Φ:=fun _ w'=>St _ _ w' _) rfl (j9 hS b8 (i:=0) rfl rfl rfl rfl rfl (xg4 rfl) (xc7.1 rfl)) ?_;intro _ w' hS';simp only [List.set] at hS';clear hS;have hS:=hS';clear hS';refine ⟨hS.drop,?_⟩;refine o8 (by kernel_rfl) ?_
   repeat' (first|(with_reducible apply b9 b8);rfl;rfl;rfl|(with_reducible apply c9);rfl;(apply Ld.sl b8;rfl;exact hS.blkC 1 rfl rfl);rfl|refine yDn (by with_reducible constructor) ?_)
   obtain ⟨g12,hg12⟩:∃ g12,g12=g:=⟨_,rfl⟩;rw [<- hg12] at hS |-;clear hg12;replace hS:=(hS.addNil 94 3).addNil 81 4;replace hS:=St.reorder [5,3,7,2,0,1] hS (by decide) rfl;clear hrow;refine l4 (Γ:=[]) (X:=Nat×(Option Addr×Nat)×(Option Addr×Nat)×List Ar×List (Sh×Value)) (fun x=>[(81,.int .i64 (x.1:Nat))]) [4,6,12,79,80] rfl (fun x=>.row 112 7 (.slice (some ⟨gos,0,none⟩) os.length c') (os.map obC)::.blk gw [.map (some rb),.map (some r),.slice (some ⟨gos,0,none⟩) os.length c',.int .i64 nx]::.blk g4 [.slice none 0 0,.slice none 0 0,.int .i64 0]::(LyS g12 x.2.1.1 x.2.1.2 x.2.2.1.1 x.2.2.1.2 (16 + I.entry) x.2.2.2.1 x.2.2.2.2++x.2.2.2.2.map a3l)) (fun x=>x.1<=os.length/\x.2.2.2.1=a3Y (os.take x.1)/\x.2.2.2.2.map (·.1)=a5u (obP os) (os.take x.1)/\AOk x.2.2.2.1/\x.2.2.2.1.length<=6 * x.1/\x.2.2.2.2.length<=1530 * x.1/\a6g (obP os) (os.take x.1)=true) (fun x=>os.length - x.1) (0,(none,0),(none,0),[],[]) (by exact Fr.sub_of rfl) ⟨xi5 _,rfl,rfl,(fun _ h=>nomatch h),xd4 _,xd4 _,rfl⟩ hS ?_;clear hS;rintro ⟨j,⟨qa,da⟩,⟨qs,dq⟩,A,Lp⟩ w8 ⟨hj,hA1,hL1,hAo,hAn,hLn,hsy⟩ hS;dsimp only [] at hj hA1 hL1 hAo hAn hLn hsy hS |-;simp only [LyS,List.cons_append,List.nil_append,List.append_nil] at hS;by_cases hjt:j < os.length;rotate_left
   ·rw [xa0 (by omega)] at hA1 hL1 hsy;rw [xf0 hsy]
    repeat' (first|(with_reducible apply b9 b8);rfl;rfl;rfl|(with_reducible apply c9);rfl;(apply Ld.st b8;rfl;exact hS.blkR 3 rfl;rfl);rfl|refine yDn (by with_reducible constructor) ?_|(with_reducible apply d5 hS b8 (i:=2));(iterate 8 rfl);exact (rfl:_=[_,_,_]);clear hS;intro w' hS;simp only [List.set] at hS|(with_reducible apply d7);rfl;all_goals (intro hb hp;try (exfalso;omega)))
    (apply a05;repeat (first|exact ResL.nil|apply ResL.tmp;rfl|apply ResL.cell;rfl;(apply Ld.st b8;rfl;exact hS.blkR 2 rfl;rfl)))
    refine xd3 ⟨rfl,(os,nx),.slice qa A.length da,.slice qs Lp.length dq,Lp,rfl,hL1,rfl,?_⟩;rw [<- hA1];exact hS.drop.drop.drop.drop
   obtain ⟨o,ho⟩:=i9 (l:=os) (i:=j) (by omega);have hom:=xd0 ho;have hrow:(os.map obC)[j]?=some [.string ⟨o.im.name.toArray⟩,o.vn,o.vs,o.vy,o.vr,.int .i64 o.im.entry,.int .i64 o.at_]:=d9 (f:=obC) ho;obtain ⟨hof,hoc⟩:=hosB o hom;obtain ⟨z1,z2,z3,z4⟩:=a14 hoc;have hos0:∀ x ∈ os,b1A x.im:=fun x hx=>(a14 (hosB x hx).2).1;have hat:o.at_=(1 + a1Z (os.take j)) * 16:=hPk.at_ j o ho;have hen:=a8w (l:=os.take j) fun x hx=>hos0 x (xg0 hx);rw [xa1] at hen;obtain ⟨b0,hb0⟩:∃ b0,b0=1 + a1Z (os.take j):=⟨_,rfl⟩;rw [<- hb0] at hat;have hb1:1<=b0/\b0<=3000:=by omega
   have hdiv:o.at_ / 16=b0:=by omega
   have hsyr:∀ x ∈ os,∀ s ∈ x.im.syms,-9223372036854775808<=x.at_ + s.at_/\x.at_ + s.at_<=9223372036854775807:=fun x hx s hs=>by
    obtain ⟨q,hq⟩:=xd9.1 hx;have q1:x.at_=(1 + a1Z (os.take q)) * 16:=hPk.at_ q x hq;have q2:=a8w (l:=os.take q) fun x hx=>hos0 x (xg0 hx);rw [xa1] at q2;obtain ⟨y,hy⟩:=xg7.1 ((a14 (hosB x hx).2).2.2.2.syms s hs);have q3:=a8s (hos0 x hx).s2 hy;omega
   have hshl:(shO (obP os) o.im b0).length<=1530:=by
    have h1:=a7h (b0:=b0) z1.s2;have h2:=z1.s3;unfold shO;rw [xh1];omega
   have hov:ObV w o:=⟨hof.needs,hof.segs,hof.syms,hof.rels⟩;obtain ⟨A',hA'⟩:∃ A',A'=a6f A b0 o.im.segs:=⟨_,rfl⟩;have hA2:A'=a3Y (os.take (j + 1)):=by rw [hA',a9v ho,hdiv,hA1]
   have hA3:=b6x hAo hb1.1 (by omega) z1.s2;rw [<- hA'] at hA3;have z5:=z1.s3;obtain ⟨J,un,us,uy,ur,at_⟩:=o;dsimp only at hrow hat hdiv hshl z1 z2 z3 z4 z5 hA';replace hA3:AOk A'/\A'.length<=A.length + J.segs.length:=hA3;replace hov:ImV w J un us uy ur:=hov;obtain ⟨qn,en,rfl⟩:=hov.needs.len;obtain ⟨qs',es_,rfl⟩:=hov.segs.len;obtain ⟨qy,ey,rfl⟩:=hov.syms.len;obtain ⟨qr,er,rfl⟩:=hov.rels.len
   repeat' (first|(with_reducible apply b9 b8);rfl;rfl;rfl|(with_reducible apply c9);rfl;(apply Ld.st b8;rfl;(first|exact hS.blkR 0 rfl|exact hS.rowR 0 rfl (by assumption));rfl);rfl|(with_reducible apply l8 b8);rfl;rfl;rfl;rfl;omega;rfl|refine yDn (by with_reducible constructor) ?_|(with_reducible apply d6 hS b8);rfl;rfl;rfl;clear hS;intro g w' hS|(with_reducible apply d5 hS b8 (i:=0));(iterate 8 rfl);exact (rfl:_=[_,_,_,_,_,_,_]);clear hS;intro w' hS;simp only [List.set] at hS|(with_reducible apply d7);rfl;all_goals (intro hb hp;try (exfalso;omega)))
   replace hS:=St.reorderT 7 [4,5,6,1,2,3] hS (by decide) rfl;simp only [s7,xk3,xk4] at hS;have hcall:=b7b (go:=g12) (gw:=gw) (qa:=qa) (da:=da) (qs:=qs) (dq:=dq) (en:=16 + I.entry) (A:=A) (Lp:=Lp) (os:=os) (b0:=b0) (Γ:=_::_::_::Lp.map a3l) hS (St.ownBs (Θ:=LyS g12 qa da qs dq (16 + I.entry) A Lp) (Γ:=_::_::_::Lp.map a3l) hS 1 rfl rfl) (St.ownSl (Θ:=LyS g12 qa da qs dq (16 + I.entry) A Lp) (Γ:=_::_::_::Lp.map a3l) hS 0 rfl) (fun x hx=>⟨(hosB x hx).1.needs.nowM (Γ:=_::_::_::Lp.map a3l) hS,(hosB x hx).1.segs.nowM (Γ:=_::_::_::Lp.map a3l) hS,(hosB x hx).1.syms.nowM (Γ:=_::_::_::Lp.map a3l) hS,(hosB x hx).1.rels.nowM (Γ:=_::_::_::Lp.map a3l) hS⟩) hsyr hom hat hb1.1 (by omega) z1.s2 z3 z4 z2 z1.s3 hAo (by omega) (by omega)
   ((with_reducible apply y7);rfl;rfl;exact hcall;rfl;rintro v w' hv)
   clear hcall;rcases hv with ⟨hsf,rfl,hS'⟩|⟨hst,rfl,qa',da',qs',dq',N,hN,hS'⟩
   ·replace hS:=St.transM (Θ:=LyS g12 qa da qs dq (16 + I.entry) A Lp) (Γ:=_::_::_::Lp.map a3l) hS hS';clear hS';simp only [List.nil_append] at hS;have hsn:a6g (obP os) os=false:=a4v ho hsf;rw [xf1 (by rw [hsn];simp)]
    repeat' (first|(with_reducible apply b9 b8);rfl;rfl;rfl|(with_reducible apply l6 b8);rfl;rfl;exact (rfl:_=some [_,_,_]);rfl|refine yDn (by with_reducible constructor) ?_|(with_reducible apply e8);rfl;rfl|(with_reducible apply d5 hS b8 (i:=2));(iterate 8 rfl);exact (rfl:_=[_,_,_]);clear hS;intro w' hS;simp only [List.set] at hS)
    (apply a05;repeat (first|exact ResL.nil|apply ResL.tmp;rfl|apply ResL.cell;rfl;(apply Ld.st b8;rfl;exact hS.blkR 2 rfl;rfl)))
    exact xd6 ⟨by decide,rfl,hS.sub (xh2 _)⟩
   ·replace hS:=(St.transM (Θ:=LyS g12 qa da qs dq (16 + I.entry) A Lp) (Γ:=_::_::_::Lp.map a3l) hS hS').perm (b7Q _ _ _ _ _ _);clear hS';rw [<- hA',<- xk1] at hS;replace hN:N.map (·.1)=shO (obP os) J b0:=hN;have hNl:N.length<=1530:=by
     have:=congrArg List.length hN;rw [xh1] at this;omega
    simp only [LyS,List.cons_append,List.nil_append] at hS
    repeat' (first|(with_reducible apply b9 b8);rfl;rfl;rfl|(with_reducible apply f9);rfl;rfl;omega;omega;rfl|refine yDn (by with_reducible constructor) ?_|(with_reducible apply f6);rfl;rfl)
    refine f8 (j + 1,(qa',da'),(qs',dq'),A',Lp++N) (by exact Fr.sub_of rfl) ⟨by show j + 1<=_;omega,hA2,?_,hA3.1,by show A'.length<=6 * (j + 1);omega,by show (Lp++N).length<=1530 * (j + 1);rw [xe9];omega,o5 hsy ho hst⟩ (by simpa only [LyS,List.cons_append,List.nil_append,List.append_nil] using hS) (by show _ - (j + 1) < _ - j;omega);show (Lp++N).map (·.1)=a5u (obP os) (os.take (j + 1));rw [xk1,hL1,hN,a9T ho,hdiv]
 obtain ⟨o,ho⟩:=i9 (l:=B) (i:=i) (by omega);have hrow:(B.map imR)[i]?=some [.string ⟨o.im.name.toArray⟩,o.vn,o.vs,o.vy,o.vr,.int .i64 o.im.entry]:=d9 (f:=imR) ho;have hov:=hallB o (xd0 ho);have hob:=hBB o (xd0 ho);obtain ⟨gu,rfl⟩:=hS.rowSome 1 rfl (by omega);obtain ⟨J,un,us,uy,ur,a1⟩:=o;replace hov:ImV w J un us uy ur:=hov;replace hob:ImB J/\ImD J:=hob;dsimp only at hrow;obtain ⟨qn,en,rfl⟩:=hov.needs.len;obtain ⟨qs,es_,rfl⟩:=hov.segs.len;obtain ⟨qy,ey,rfl⟩:=hov.syms.len;obtain ⟨qr,er,rfl⟩:=hov.rels.len;by_cases hc0:t9 J=0;rotate_left
 ·have hd:(!decide (t9 J=0))=true:=by rw [xh9 hc0];rfl
  have hfind:=b1l (p:=fun o=>!decide (t9 o.im=0)) hck ho hd
  repeat' (first|(with_reducible apply b9 b8);rfl;rfl;rfl|(with_reducible apply c9);rfl;(apply Ld.st b8;rfl;(first|exact hS.blkR 0 rfl|exact hS.rowR 1 rfl (by assumption));rfl);rfl|(with_reducible apply l8 b8);rfl;rfl;rfl;rfl;omega;rfl|(with_reducible apply l6 b8);rfl;rfl;exact (rfl:_=some [_,_,_]);rfl|refine yDn (by with_reducible constructor) ?_|(with_reducible apply e8);rfl;assumption|(with_reducible apply d6 hS b8);rfl;rfl;rfl;clear hS;intro g w' hS|(with_reducible apply d5 hS b8 (i:=0));(iterate 8 rfl);exact (rfl:_=[_,_,_,_,_,_]);clear hS;intro w' hS;simp only [List.set] at hS|(with_reducible apply d7);rfl;all_goals (intro hb hp;try (exfalso;omega))|(with_reducible apply d8 hS);rfl;rfl;rfl;refine ⟨_,a9z (hov.now hS) hob.1 hob.2,?_⟩;clear hS;intro w' hS|(with_reducible apply d5 hS b8 (i:=5));(iterate 8 rfl);exact (rfl:_=[_,_,_]);clear hS;intro w' hS;simp only [List.set] at hS)
  (apply a05;repeat (first|exact ResL.nil|apply ResL.tmp;rfl|apply ResL.cell;rfl;(apply Ld.st b8;rfl;exact hS.blkR 5 rfl;rfl)))
  refine xd6 ⟨?_,?_,hS.sub (xh2 _)⟩
  ·rw [hfind];exact hc0
  ·rw [hfind];rfl
 have hd:(!decide (t9 J=0))=false:=by rw [xi0 hc0];rfl
 repeat' (first|(with_reducible apply b9 b8);rfl;rfl;rfl|(with_reducible apply c9);rfl;(apply Ld.st b8;rfl;(first|exact hS.blkR 0 rfl|exact hS.rowR 1 rfl (by assumption));rfl);rfl|(with_reducible apply l8 b8);rfl;rfl;rfl;rfl;omega;rfl|refine yDn (by with_reducible constructor) ?_|(with_reducible apply f6);rfl;assumption|(with_reducible apply d6 hS b8);rfl;rfl;rfl;clear hS;intro g w' hS|(with_reducible apply d5 hS b8 (i:=0));(iterate 8 rfl);exact (rfl:_=[_,_,_,_,_,_]);clear hS;intro w' hS;simp only [List.set] at hS|(with_reducible apply d7);rfl;all_goals (intro hb hp;try (exfalso;omega))|(with_reducible apply d8 hS);rfl;rfl;rfl;refine ⟨_,a9z (hov.now hS) hob.1 hob.2,?_⟩;clear hS;intro w' hS)
 (focus ((with_reducible apply a1f _ _ _ 7 (by kernel_rfl) (by kernel_rfl) hS);(simp only [xh3,xh4,xk3,xk4]);(repeat' ((first|(with_reducible apply j3 b8);rfl;rfl|(with_reducible apply j0);rfl;(intro wd hd;replace hd:St _ _ wd _:=hd;(first|apply Ld.sc b8;rfl;(first|exact hd.blkC 0 rfl rfl|exact hd.blkC 3 rfl rfl)|apply Ld.st b8;rfl;exact hd.blkR 0 rfl;rfl));rfl)));all_goals ((with_reducible apply k8);intro w' hS';clear hS;have hS:=hS';clear hS')))
 have hck2:∀ x ∈ B.take (i + 1),(!decide (t9 x.im=0))=false:=by
  rw [xp5,ho];intro x hx;rcases xe3.1 hx with h|h
  ·exact hck x h
  ·have:x=⟨J,.slice qn J.needs.length en,.slice qs J.segs.length es_,.slice qy J.syms.length ey,.slice qr J.rels.length er,a1⟩:=by simpa using h
   rw [this];exact hd
 by_cases hin:∃ v,(stK J.name,v) ∈ L
 ·obtain ⟨v0,hv0⟩:=hin;refine a2j (b7s hS (i:=1) a2m a1Q rfl rfl rfl rfl hG (k:=stK J.name) trivial hv0) ?_;rintro - w9 ⟨es',c',j,u',-,hG',hS'⟩;simp only [List.set] at hS';clear hS;have hS:=hS';clear hS'
  repeat' (first|(with_reducible apply b9 b8);rfl;rfl;rfl|(with_reducible apply f9);rfl;rfl;omega;omega;rfl|refine yDn (by with_reducible constructor) ?_)
  replace hS:=St.reorder [1,2,3,4,5,6] hS (by decide) rfl;exact f8 (i + 1,es',c',_) (by exact Fr.sub_of rfl) ⟨by show i + 1<=_;omega,hG',hMB.old ho hv0,hck2⟩ hS (by show _ - (i + 1) < _ - i;omega)
 ·have hno:∀ v,(stK J.name,v) ∉ L:=fun v hv=>hin ⟨v,hv⟩;refine a2j (a8K hS (i:=1) a2m a1Q rfl rfl rfl rfl hG (k:=stK J.name) trivial hno) ?_;rintro - w9 ⟨es',c',hG',hS'⟩;simp only [List.set] at hS';clear hS;have hS:=hS';clear hS'
  repeat' (first|(with_reducible apply b9 b8);rfl;rfl;rfl|(with_reducible apply f9);rfl;rfl;omega;omega;rfl|refine yDn (by with_reducible constructor) ?_)
  replace hS:=St.reorder [1,2,3,4,5,6] hS (by decide) rfl;exact f8 (i + 1,es',c',_) (by exact Fr.sub_of rfl) ⟨by show i + 1<=_;omega,hG',hMB.new ho hno,hck2⟩ hS (by show _ - (i + 1) < _ - i;omega)
structure OrdI (B:List Ob) (ord:List Nat) (s:List Ob×Int):Prop where
 len:s.1.length=ord.length
 at_:∀ (i k:Nat),ord[i]?=some k->∃ (o:Ob) (a:Int),B[k]?=some o/\s.1[i]?=some { o with at_:=a }
theorem b4n {B:List Ob} (h:(B.map fun o=>o.im.name).Nodup) {i j:Nat} {a b:Ob} (ha:B[i]?=some a) (hb:B[j]?=some b) (he:a.im.name=b.im.name):i=j:=by
 obtain ⟨h1,rfl⟩:=xa7.1 ha;obtain ⟨h2,rfl⟩:=xa7.1 hb;unfold List.Nodup at h;rw [xd8] at h;rcases Nat.lt_trichotomy i j with hlt|heq|hlt
 ·exact absurd (by rw [xq8,xq8];exact he) (h i j (by simpa using h1) (by simpa using h2) hlt)
 ·exact heq
 ·exact absurd (by rw [xq8,xq8];exact he.symm) (h j i (by simpa using h2) (by simpa using h1) hlt)
theorem OrdI.mem {B:List Ob} {ord:List Nat} {s:List Ob×Int} {k:Nat} {o:Ob} (h:OrdI B ord s) (hn:(B.map fun o=>o.im.name).Nodup) (hk:B[k]?=some o):k ∈ ord ↔ a8W s.1 o.im.name=true:=by
 rw [a4Z];constructor
 ·intro hm;obtain ⟨i,hi⟩:=xd9.1 hm;obtain ⟨o',a,h1,h2⟩:=h.at_ i k hi;rw [hk] at h1
  cases h1
  exact ⟨_,xd0 h2,rfl⟩
 ·rintro ⟨x,hx,hxn⟩;obtain ⟨i,hi⟩:=xd9.1 hx;have hil:i < ord.length:=by have:=e7 hi;have:=h.len;omega
  obtain ⟨k',hk'⟩:=i9 (l:=ord) (i:=i) (by omega);obtain ⟨o',a,h1,h2⟩:=h.at_ i k' hk';rw [hi] at h2
  cases h2
  have:=b4n hn hk h1 hxn.symm;subst this;exact xd0 hk'
theorem OrdI.old {B:List Ob} {ord:List Nat} {s:List Ob×Int} {k:Nat} {o:Ob} (h:OrdI B ord s) (hn:(B.map fun o=>o.im.name).Nodup) (hk:B[k]?=some o) (hm:k ∈ ord):OrdI B ord (x6 s o):=by
 have:=(h.mem hn hk).1 hm;unfold x6 a7C a4t;rw [xf0 this,xf0 this];exact h
theorem OrdI.new {B:List Ob} {ord:List Nat} {s:List Ob×Int} {k:Nat} {o:Ob} (h:OrdI B ord s) (hn:(B.map fun o=>o.im.name).Nodup) (hk:B[k]?=some o) (hm:k ∉ ord):OrdI B (ord++[k]) (x6 s o):=by
 have hp:¬ a8W s.1 o.im.name=true:=fun hc=>hm ((h.mem hn hk).2 hc);unfold x6 a7C a4t;rw [xf1 hp,xf1 hp];refine ⟨by simp [h.len],fun i j hj=>?_⟩;rcases xq4 i ord.length with hi|hi
 ·rw [xa6 hi] at hj;obtain ⟨o',a,h1,h2⟩:=h.at_ i j hj;exact ⟨o',a,h1,by rw [xa6 (by rw [h.len];exact hi)];exact h2⟩
 ·rw [xa5 hi] at hj;obtain ⟨h1,h2⟩:=xa7.1 hj;simp only [xn2] at h1;obtain rfl:i=ord.length:=by omega
  simp only [xf8,xp9] at h2;subst h2;exact ⟨o,s.2 * 16,hk,by rw [<- h.len,xa5 (by omega)];simp⟩
theorem OrdI.start {B:List Ob} {M:Ob} (h:B[0]?=some M):OrdI B [0] (x6 ([],1) M):=by
 refine ⟨rfl,fun i k hk=>?_⟩
 cases i with
 |zero=>
  obtain rfl:0=k:=by simpa using hk
  exact ⟨M,16,h,rfl⟩
 |succ i=>simp at hk
theorem eb (b:Bool) {c:Bool} (h:b=c):Value.bool b=.bool c:=by rw [h]
structure ObsI (w:World) (os:List Ob):Prop where
 v:∀ o ∈ os,ObV w o
 b:∀ o ∈ os,∃ b:Int,o.at_=b * 16/\1<=b/\b<=1800
 y:∀ o ∈ os,∀ s ∈ o.im.syms,-9223372036854775808<=o.at_ + s.at_/\o.at_ + s.at_<=9223372036854775807
 n:os.length<=7
 k:∀ o ∈ os,t9 o.im=0
theorem ObsI.now {w w':World} {os:List Ob} {Γ:List Asr} (h:ObsI w os) (hS:St nF w w' Γ):ObsI w' os:=⟨fun o ho=>(h.v o ho).now hS,h.b,h.y,h.n,h.k⟩
abbrev Bs8:=List UInt8
section
variable {α:Type} {one:Bs8->Option (α×Bs8)}
end
theorem wrap64_in {m:Int} (h1:-9223372036854775808<=m) (h2:m<=9223372036854775807):wrap64 m=m:=by unfold wrap64;omega
theorem a9y (n:Int) (k:Nat) (w:World) (hk:k<=8):Fn Tryz.prog 138 [.int .i64 n,.int .i64 k] w (RBf (.string ⟨(leB n k).toArray⟩) w) :=
 Fn.of_rb ⟨Tryz.func138,by kernel_rfl,by kernel_rfl⟩ (a69 (b3y n k w hk))
def b74 (op a b c imm:Int):List UInt8:=leB op 1++leB a 1++leB b 1++leB c 1++leB imm 4
theorem a7v (op a b c imm:Int) (w:World):Fn Tryz.prog 99 [.agg [.int .i64 op,.int .i64 a,.int .i64 b,.int .i64 c,.int .i64 imm].toArray] w (RBf (.string ⟨(b74 op a b c imm).toArray⟩) w):=by
 refine yEn Tryz.func99 Tryz.ntmps99 (by kernel_rfl) (by kernel_rfl) rfl rfl ?_;have hS:=St.start w
 repeat' (first|(with_reducible apply b9 b8);rfl;rfl;rfl|refine yDn (by with_reducible constructor) ?_|(with_reducible apply k9 hS);rfl;rfl;rfl;clear hS;intro g w' hS)
 (focus ((with_reducible apply e6 _ _ _ (by kernel_rfl) (by kernel_rfl) hS);(repeat' (first|(first|(with_reducible apply j3 b8);rfl;rfl|(with_reducible apply j0);rfl;(intro wd hd;replace hd:St _ _ wd _:=hd;(apply Ld.sc b8;rfl;exact hd.blkC 0 rfl rfl));rfl)|(with_reducible apply m7);rfl;rfl;rfl;refine ⟨_,fun wd hd=>a9y _ 1 _ (by decide),?_⟩|(with_reducible apply m7);rfl;rfl;rfl;refine ⟨_,fun wd hd=>a9y _ 4 _ (by decide),?_⟩|(with_reducible apply a1z);intro a ha;exact b7S (by rfl) (by rfl) (by simp only [xe9,leB_length];omega) a ha _;rfl));all_goals ((with_reducible apply k8);intro w' hS';clear hS;have hS:=hS';clear hS')))
 repeat' ((refine yDn (by with_reducible constructor) ?_))
 (refine j4 rfl ?_)
 exact ⟨rfl,hS.sub (xh2 _)⟩
section
variable {P:Program} {n:Nat} {ds:List Deferred} {E:Fr} {w:World} {dst:Option Nat} {ty:TypeId} {pos:String} {after:Array Edge} {F:Nat->Prop} {w0:World} {Γ:List Asr} {T:Tab}
theorem b2b (hS:St F w0 w Γ) (hT:TabOk P T) {t u e i sz2 g m cap:Nat} {z2:Value} {x:Operand} {l:List UInt8} (ht:T.get t=some (.sl e 1 1 false [.int .u8 0])) (he:T.get e=some (.sc (.int .u8) 1 (.int .u8 0))) (hu2:T.get u=some (.sc .string sz2 z2)) (hx:E.ev x=some (.slice (some ⟨g,0,none⟩) m cap)) (hm:m=l.length) (hi:Γ[i]?=some (.row e 1 (.slice (some ⟨g,0,none⟩) m cap) (bR l))) :
  Gets P ⟨dst,.convert t u x,ty,pos,after,none⟩ n ds E w (fun v' w'=>v'=.string ⟨l.toArray⟩/\w'=w):=by
 refine Gets.of_at fun a ha=>?_;obtain ⟨ji,zv,hu,hinfo,_⟩:=hT.sl ht;obtain ⟨_,hus,_⟩:=hT.sc hu2;obtain ⟨_,hue,_⟩:=hT.sc he;subst hm;have hrun:=run_convert_bytes_back (P:=P) w t u e ⟨g,0,none⟩ cap l hu hue hus (fun j hj=>by
   rw [a3v];have:=hS.rowC i hi (k:=j) (j:=0) (r:=[.int .u8 l[j].toNat]) (u:=.int .u8 l[j].toNat) (by unfold bR;simp [hj]) rfl
   simpa using this)
 simp only [execOp,ha.ev hx,Sem.run_bind,hrun,Result.andThen_ok,Sem.run_pure]
end
section
variable {P:Program} {n:Nat} {ds:List Deferred} {E:Fr} {w:World} {Q:Exit->Act->World->Prop} {ops:Array Oper} {S:World->Prop} {q fuel:Nat} {li:Array Bool} {d:Nat} {op:Op} {ty:TypeId} {pos:String} {after:Array Edge} {T:Tab}
theorem a3k {i:Nat} (_C:Nn i) {v:Value} (hi:ops[i]?=some ⟨some d,op,ty,pos,after,none⟩) (hs:Region.noSelect ops=true) (hf:Region.free .any ops li i=true) (hr:(Region.ready .any ops li).contains i=true) (hqi:Nat.beq q i=false)
  (hQ:∀ c (a:Act) w,Q (.panic c) (a.put (some d) v) w->Q (.panic c) a w) (hS:li.getD q false=true\/S w) (h:∀ a,Has n ds a E->a09 P ⟨some d,op,ty,pos,after,none⟩ a v) (hd:Nat.blt d n=true) (k:WT P ops Q S q fuel (li.setIfInBounds i true) n ds ((d,v)::E) w):WT P ops Q S q (fuel + 1) li n ds E w:=fun a ha=>
 a7V hi (Region.noSelect_spec hs) hQ (fun e=>by subst e;rw [Nat.beq_refl] at hqi;cases hqi) fuel li a w (Region.free_spec hi hf) (by simpa using hr) hS (xd6 ⟨rfl,fun w _=>h a ha w⟩) (k _ (ha.put d v hd))
theorem a36 {i:Nat} (_C:Nn i) (hT:TabOk P T) {t s:Nat} {fs:List (Nat×Nat×Bool)} {z L:List Value} {parts:Array (Nat×Operand)} {ps:List (Nat×Value)} (hi:ops[i]?=some ⟨some d,.build t parts,ty,pos,after,none⟩) (hs:Region.noSelect ops=true) (hf:Region.free .any ops li i=true) (hr:(Region.ready .any ops li).contains i=true) (hqi:Nat.beq q i=false)
  (hQ:∀ c (a:Act) w v,Q (.panic c) (a.put (some d) v) w->Q (.panic c) a w) (hS:li.getD q false=true\/S w) (ht:T.get t=some (.st s fs z)) (hp:evP E parts.toList=some ps) (hL:a2I (fun i=>(fs[i]?).map fun f=>(f.1,f.2.1)) z ps=some L) (hd:Nat.blt d n=true) (k:WT P ops Q S q fuel (li.setIfInBounds i true) n ds ((d,.agg L.toArray)::E) w):WT P ops Q S q (fuel + 1) li n ds E w :=
 a3k _C hi hs hf hr hqi (fun c a w=>hQ c a w _) hS (fun a ha=>a33 hT ht hp hL a ha) hd k
end
section
variable {P:Program} {n:Nat} {ds:List Deferred} {E E':Fr} {w:World} {F:Nat->Prop} {w0:World} {Γ:List Asr}
end
def a74 (o:Option (List UInt8)):Value:=.tuple #[.string ⟨(o.getD []).toArray⟩,.bool o.isSome]
theorem a2p:∀ {l:List Sh} {last:Int},a0B last l=true->(∀ s ∈ l,s9 s=true/\last < s.page)/\Rises (l.map fun s=>s.page)
 |[],_,_=>⟨by simp,List.Pairwise.nil⟩
 |s::l,last,h=>by
  replace h:(s9 s && (decide (last < s.page) && a0B s.page l))=true:=h;simp only [xb4,xb5] at h;obtain ⟨h1,h2,h3⟩:=h;obtain ⟨i1,i2⟩:=a2p h3;refine ⟨fun x hx=>?_,List.Pairwise.cons (fun p hp=>?_) i2⟩
  ·rcases xc4.1 hx with rfl|hx
   ·exact ⟨h1,h2⟩
   ·exact ⟨(i1 x hx).1,by have:=(i1 x hx).2;omega⟩
  ·obtain ⟨x,hx,rfl⟩:=xh0.1 hp;exact (i1 x hx).2
theorem a30 (l:List (Sh×Value)):(l.map fun p=>p.1.page)=(shs l).map fun s=>s.page:=by unfold shs;rw [xl6];rfl
theorem b25 {l:List Sh} {p:Int} (h:p ∉ l.map fun s=>s.page):a7G l p=none:=by
 unfold a7G;rw [xj0];intro x hx hp;exact h (xh0.2 ⟨x,hx,by simpa using hp⟩)
theorem b2N {l:List Sh} {p:Int} {i:Nat} {s:Sh} (hr:Rises (l.map fun s=>s.page)) (hi:l[i]?=some s) (hp:s.page=p):a7G l p=some s:=by
 unfold a7G;rw [List.find?_eq_some_iff_getElem];obtain ⟨h1,rfl⟩:=xa7.1 hi;refine ⟨by simpa using hp,i,h1,rfl,fun j hj=>?_⟩;have hjl:j < l.length:=by omega
 have:=hr.at_ hj (d9 (f:=fun s:Sh=>s.page) (xe1 hjl)) (d9 (f:=fun s:Sh=>s.page) hi);simp;omega
theorem ShsV.one {w:World} {l:List (Sh×Value)} {v:Value} (h:ShsV w l v):∀ p ∈ l,p.2.oneCell'=true:=fun p hp=>by
 obtain ⟨a,c,hpc⟩:=(h.fx p hp).len;rw [hpc];rfl
theorem a3h {F:Nat->Prop} {w:World} {l:List (Sh×Value)} {g o:Nat} {vsh:Value} {a:Ar} {p:Int} (hc:Bs nF w ⟨g,o,none⟩ vsh) (hL:ShsV w l vsh) (hr:a0B 0 (shs l)=true) (hp:-1000000<=p/\p<=1000000):Fn Tryz.prog 84 [.pointer (some ⟨g,o,none⟩),.agg (arC a).toArray,.int .i64 p] w (RBf (a74 (a0Q (shs l) a.z p)) w):=by
 obtain ⟨r1,r2⟩:=a2p hr;have hone:=hL.one;have bnd:=hL.sl.bound;obtain ⟨pv,cv,rfl⟩:=hL.sl.len;have hbs:=fun w (h:Sl nF w 3 (.slice pv l.length cv) (l.map fun p=>shC p.1 p.2))=>b5U (t:=p) h (by rw [a30];exact r2) (fun q hq=>by
  rw [a30] at hq;obtain ⟨s,hs,rfl⟩:=xh0.1 hq;have:=a4A (r1 s hs).1;omega) hone
 unfold arC;by_cases hz:a.z=true
 ·unfold a0Q;rw [xf0 hz,hz];refine yEn Tryz.func84 Tryz.ntmps84 (by kernel_rfl) (by kernel_rfl) rfl rfl ?_;have hS:=St.start w
  repeat' (first|(with_reducible apply b9 b8);rfl;rfl;rfl|(with_reducible apply c9);rfl;(apply Ld.sc b8;rfl;exact hS.blkC 0 rfl rfl);rfl|refine yDn (by with_reducible constructor) ?_|(with_reducible apply e8);rfl;rfl|(with_reducible apply k9 hS);rfl;rfl;rfl;clear hS;intro g w' hS|(with_reducible apply a7l hS b8 (m:=16));(iterate 5 rfl);omega;omega;rfl;rfl;intro gz w' hS';clear hS;have hS:=hS';clear hS')
  ((with_reducible apply z8);rfl;exact b2b hS b8 (i:=0) (l:=List.replicate 16 0) rfl rfl rfl rfl (by rw [xb0]) (by unfold bR;rw [xi1];rfl);rintro _ _ ⟨rfl,rfl⟩)
  repeat' (first|(with_reducible apply b9 b8);rfl;rfl;rfl|refine yDn (by with_reducible constructor) ?_)
  (refine a2O rfl ?_)
  exact ⟨rfl,hS.sub (xh2 _)⟩
 have hzf:a.z=false:=by simpa using hz
 unfold a0Q;rw [xf1 hz,hzf];unfold BsV at hbs;by_cases hm:p ∈ l.map fun x=>x.1.page
 ·have hdm:decide (p ∈ l.map fun x=>x.1.page)=true:=xi0 hm;have hlb:=(a1m (by rw [a30];exact r2) p).2 hm;rw [hdm] at hbs;generalize lbd (l.map fun x=>x.1.page) p=i at hbs hlb;rw [xm3] at hlb;obtain ⟨x,hx,hxp⟩:∃ x,l[i]?=some x/\x.1.page=p:=by
   cases hq:l[i]? with
   |none=>rw [hq] at hlb;cases hlb
   |some x=>rw [hq] at hlb;exact ⟨x,rfl,Option.some.inj hlb⟩
  have hil:=e7 hx;have hrow:=d9 (f:=fun p:Sh×Value=>shC p.1 p.2) hx;have hfx:=hL.fx x (xd0 hx);have hsa:=b2N r2 (a2M hx) hxp;have hrt:=(r1 x.1 (xd0 (a2M hx))).1;rw [hsa];obtain ⟨S,u⟩:=x;dsimp only [shC] at hrow hfx hrt;obtain ⟨pu,cu,rfl⟩:=hfx.len;have hfi:∀ w1,ShV w1 S (.slice pu S.fixes.length cu)->Fn Tryz.prog 46 [.agg [.int .i64 S.page,.string ⟨S.data.toArray⟩,.slice pu S.fixes.length cu].toArray] w1 (RBf (.tuple #[.string ⟨(a5Y S).toArray⟩,.int .i64 0]) w1):=fun w1 h=>by
   have h3:=b16 h;rw [xf0 hrt,xf0 hrt] at h3;exact h3
  have hsl:=hL.sl;refine yEn Tryz.func84 Tryz.ntmps84 (by kernel_rfl) (by kernel_rfl) rfl rfl ?_;have hS:=St.start w
  repeat' (first|(with_reducible apply b9 b8);rfl;rfl;rfl|(with_reducible apply c9);rfl;(first|apply Ld.sc b8;rfl;exact hS.blkC 0 rfl rfl|apply Ld.sl b8;rfl;exact hS.bs (by assumption));rfl|refine yDn (by with_reducible constructor) ?_|(with_reducible apply f6);rfl;rfl|(with_reducible apply k9 hS);rfl;rfl;rfl;clear hS;intro g w' hS|(with_reducible apply d8 hS);rfl;rfl;rfl;refine ⟨_,hbs _ (hsl.now hS),?_⟩;clear hS;intro w' hS)
  obtain ⟨b,off,hpe,hro⟩:=hsl.at_ (i:=i) hil;subst hpe
  repeat' (first|(with_reducible apply b9 b8);rfl;rfl;rfl|(with_reducible apply c9);rfl;(apply Ld.st b8;rfl;exact hS.roR (by assumption) (by assumption);rfl);rfl|(with_reducible apply l8 b8);rfl;rfl;rfl;rfl;omega;rfl|refine yDn (by with_reducible constructor) ?_|(with_reducible apply d8 hS);rfl;rfl;rfl;refine ⟨_,hfi _ (hfx.now hS),?_⟩;clear hS;intro w' hS)
  (refine a2O rfl ?_)
  exact ⟨rfl,hS.sub (xh2 _)⟩
 ·have hdm:decide (p ∈ l.map fun x=>x.1.page)=false:=xh9 hm;rw [hdm] at hbs;rw [b25 (by rw [<- a30];exact hm)];have hsl:=hL.sl;refine yEn Tryz.func84 Tryz.ntmps84 (by kernel_rfl) (by kernel_rfl) rfl rfl ?_;have hS:=St.start w
  repeat' (first|(with_reducible apply b9 b8);rfl;rfl;rfl|(with_reducible apply c9);rfl;(first|apply Ld.sc b8;rfl;exact hS.blkC 0 rfl rfl|apply Ld.sl b8;rfl;exact hS.bs (by assumption));rfl|refine yDn (by with_reducible constructor) ?_|(with_reducible apply e8);rfl;rfl|(with_reducible apply f6);rfl;rfl|(with_reducible apply k9 hS);rfl;rfl;rfl;clear hS;intro g w' hS|(with_reducible apply d8 hS);rfl;rfl;rfl;refine ⟨_,hbs _ (hsl.now hS),?_⟩;clear hS;intro w' hS)
  (refine a2O rfl ?_)
  exact ⟨rfl,hS.sub (xh2 _)⟩
theorem b8i (a b:Fx):a7t Tryz.prog 96 (fxC a) (fxC b) (decide (a=b)):=by
 refine ⟨fun w=>?_,by kernel_rfl⟩
 cases a
 cases b
 unfold fxC;simp [go_sem]
 repeat' split
 all_goals simp_all
theorem neS {α:Type} [DecidableEq α] (x:α):(!decide (x=x))=false:=by simp
theorem a7E {A B:List (Sh×Value)} {w:World} {va vb:Value} (hA:ShsV w A va) (hB:ShsV w B vb) (he:shs A=shs B):Fn Tryz.prog 60 [va,vb] w (RBf (.bool true) w):=by
 have hsa:=hA.sl;have hsb:=hB.sl;have bnd:=hA.sl.bound;have hlen:A.length=B.length:=by have:=congrArg List.length he;rwa [a0L,a0L] at this
 obtain ⟨pa,ca,rfl⟩:=hA.sl.len;obtain ⟨pb,cb,rfl⟩:=hB.sl.len;rw [<- hlen] at hsb |-;refine yEn Tryz.func60 Tryz.ntmps60 (by kernel_rfl) (by kernel_rfl) rfl rfl ?_;have hS:=St.start w;have hnl:=neS (A.length:Int)
 repeat' (first|(with_reducible apply b9 b8);rfl;rfl;rfl|refine yDn (by with_reducible constructor) ?_|(with_reducible apply f6);rfl;assumption)
 refine l4 (X:=Nat) (fun x=>[(5,.int .i64 (x:Nat))]) [0,1] rfl (fun _=>[]) (fun x=>x<=A.length) (fun x=>A.length - x) 0 (by exact Fr.sub_of rfl) (xi5 _) hS ?_;clear hS;intro i w1 hi hS;dsimp only [List.cons_append,List.nil_append] at hi hS |-;by_cases hlt:i < A.length;rotate_left
 ·repeat' (first|(with_reducible apply b9 b8);rfl;rfl;rfl|refine yDn (by with_reducible constructor) ?_|(with_reducible apply d7);rfl;all_goals (intro hb hp;try (exfalso;omega)))
  (refine j4 rfl ?_)
  exact ⟨rfl,hS⟩
 obtain ⟨x,hx⟩:=i9 (l:=A) (i:=i) (by omega);obtain ⟨y,hy⟩:=i9 (l:=B) (i:=i) (by omega);have hxy:x.1=y.1:=by
  have h1:=a2M hx;have h2:=a2M hy;rw [he,h2] at h1;exact (Option.some.inj h1).symm
 have hrow:=d9 (f:=fun p=>shC p.1 p.2) hx;have hrow2:=d9 (f:=fun p=>shC p.1 p.2) hy;have hfx:=hA.fx x (xd0 hx);have hfy:=hB.fx y (xd0 hy);obtain ⟨b,off,hpe,hro⟩:=hsa.parts.2.resolve_left (fun h=>by have:=congrArg List.length h;simp at this;rw [this] at hlt;simp at hlt);obtain ⟨b2,off2,hpe2,hro2⟩:=hsb.parts.2.resolve_left (fun h=>by have:=congrArg List.length h;simp at this;rw [this] at hlen;simp at hlen;rw [hlen] at hlt;simp at hlt);subst hpe hpe2;replace hro:=hro.2.2;replace hro2:=hro2.2.2;obtain ⟨S,u⟩:=x;obtain ⟨S2,u2⟩:=y;dsimp only at hxy;subst hxy;dsimp only [shC] at hrow hrow2 hfx hfy;have bf:=hfx.bound;obtain ⟨pu,cu,rfl⟩:=hfx.len;obtain ⟨pu2,cu2,rfl⟩:=hfy.len;have q1:=neS S.page;have q2:=neS S.data;have q3:=neS (S.fixes.length:Int)
 repeat' (first|(with_reducible apply b9 b8);rfl;rfl;rfl|refine yDn (by with_reducible constructor) ?_|(with_reducible apply d7);rfl;all_goals (intro hb hp;try (exfalso;omega)))
 (focus ((with_reducible apply e6 _ _ _ (by kernel_rfl) (by kernel_rfl) hS);(repeat' ((first|(with_reducible apply j3 b8);rfl;rfl|(with_reducible apply j0);rfl;(intro wd hd;replace hd:St _ _ wd _:=hd;(first|apply Ld.sc b8;rfl;(first|exact hd.roC0 (by assumption) (by assumption) rfl|exact hd.roC (by assumption) (by assumption) rfl)|apply Ld.sl b8;rfl;exact hd.roC (by assumption) (by assumption) rfl));rfl|(with_reducible apply a0s b8);rfl;rfl;rfl;rfl;omega;rfl|(first|(with_reducible apply a0g);(iterate 4 rfl);assumption|(with_reducible apply p7);rfl;assumption;rfl;rfl))));all_goals ((with_reducible apply k8);intro w' hS';clear hS;have hS:=hS';clear hS')))
 repeat' (first|(with_reducible apply b9 b8);rfl;rfl;rfl|refine yDn (by with_reducible constructor) ?_|(with_reducible apply f6);rfl;assumption)
 refine l4 (X:=Nat) (fun x=>[(6,.int .i64 (x:Nat))]) [0,1,5] rfl (fun _=>[]) (fun x=>x<=S.fixes.length) (fun x=>S.fixes.length - x) 0 (by exact Fr.sub_of rfl) (xi5 _) hS ?_;clear hS;intro k w2 hk hS;dsimp only [List.cons_append,List.nil_append] at hk hS |-;by_cases hkt:k < S.fixes.length
 ·obtain ⟨f,hf⟩:=i9 (l:=S.fixes) (i:=k) (by omega);have hrow3:=d9 (f:=fxC) hf;obtain ⟨b3,off3,hpe3,hro3⟩:=hfx.at_ (i:=k) hkt;obtain ⟨b4,off4,hpe4,hro4⟩:=hfy.at_ (i:=k) hkt;subst hpe3 hpe4;have hd:(!decide (f=f))=false:=by simp
  repeat' (first|(with_reducible apply b9 b8);rfl;rfl;rfl|(with_reducible apply c9);rfl;(apply Ld.sl b8;rfl;exact hS.roC (by assumption) (by assumption) rfl);rfl|(with_reducible apply l8 b8);rfl;rfl;rfl;rfl;omega;rfl|refine yDn (by with_reducible constructor) ?_|(with_reducible apply d7);rfl;all_goals (intro hb hp;try (exfalso;omega)))
  (focus ((with_reducible apply e6 _ _ _ (by kernel_rfl) (by kernel_rfl) hS);(repeat' (first|(first|(with_reducible apply j3 b8);rfl;rfl|(with_reducible apply j0);rfl;(intro wd hd;replace hd:St _ _ wd _:=hd;(first|apply Ld.sl b8;rfl;exact hd.roC (by assumption) (by assumption) rfl|apply Ld.st b8;rfl;exact hd.roR (by assumption) (by assumption);rfl));rfl|(with_reducible apply a0s b8);rfl;rfl;rfl;rfl;omega;rfl)|(with_reducible apply a6D);rfl;rfl;exact b8i f f;rfl));all_goals ((with_reducible apply k8);intro w' hS';clear hS;have hS:=hS';clear hS')))
  repeat' (first|(with_reducible apply b9 b8);rfl;rfl;rfl|(with_reducible apply f9);rfl;rfl;omega;omega;rfl|refine yDn (by with_reducible constructor) ?_|(with_reducible apply f6);rfl;assumption)
  exact f8 (k + 1) (by exact Fr.sub_of rfl) (by show k + 1<=_;omega) hS (by show _ - (k + 1) < _ - k;omega)
 ·repeat' (first|(with_reducible apply b9 b8);rfl;rfl;rfl|(with_reducible apply c9);rfl;(apply Ld.sl b8;rfl;exact hS.roC (by assumption) (by assumption) rfl);rfl|(with_reducible apply l8 b8);rfl;rfl;rfl;rfl;omega;rfl|(with_reducible apply f9);rfl;rfl;omega;omega;rfl|refine yDn (by with_reducible constructor) ?_|(with_reducible apply d7);rfl;all_goals (intro hb hp;try (exfalso;omega)))
  exact f8 (i + 1) (by exact Fr.sub_of rfl) (by show i + 1<=_;omega) hS (by show _ - (i + 1) < _ - i;omega)
theorem b02 {Lp:List (Sh×Value)} {w:World} {vs:Value} (hL:ShsV w Lp vs):Fn Tryz.prog 62 [vs] w (RBf (.bool (a0B 0 (shs Lp))) w):=by
 have bnd:=hL.sl.bound;have hsl:=hL.sl;obtain ⟨p,c,rfl⟩:=hL.sl.len;refine yEn Tryz.func62 Tryz.ntmps62 (by kernel_rfl) (by kernel_rfl) rfl rfl ?_;have hS:=St.start w
 repeat' (first|(with_reducible apply b9 b8);rfl;rfl;rfl|refine yDn (by with_reducible constructor) ?_)
 refine l4 (X:=Nat×Int) (fun x=>[(9,.int .i64 (x.1:Nat))]) [0,7,8] rfl (fun _=>[]) (fun x=>x.1<=Lp.length/\((x.1=0/\x.2=0)\/(0 < x.1/\∃ y,Lp[x.1 - 1]?=some y/\x.2=y.1.page))/\a0B 0 (shs Lp)=a0B x.2 ((shs Lp).drop x.1)) (fun x=>Lp.length - x.1) (0,0) (by exact Fr.sub_of rfl) (by simp) hS ?_;clear hS;rintro ⟨i,last⟩ w1 ⟨hi,hlast,hok⟩ hS;dsimp only [List.cons_append,List.nil_append] at hi hlast hok hS |-;by_cases hlt:i < Lp.length;rotate_left
 ·rw [xn8 (by rw [a0L];omega)] at hok
  repeat' (first|(with_reducible apply b9 b8);rfl;rfl;rfl|refine yDn (by with_reducible constructor) ?_|(with_reducible apply d7);rfl;all_goals (intro hb hp;try (exfalso;omega)))
  (refine j4 rfl ?_)
  exact ⟨by rw [hok];rfl,hS.sub (xh2 _)⟩
 obtain ⟨x,hx⟩:=i9 (l:=Lp) (i:=i) (by omega);have hrow:=d9 (f:=fun p=>shC p.1 p.2) hx;obtain ⟨b,off,rfl,hro⟩:=hsl.at_ (i:=i) hlt;have hst:=a60 (last:=last) (a2M hx);have hfx:=hL.fx x (xd0 hx);obtain ⟨S,u⟩:=x;dsimp only [shC] at hrow hst hfx;obtain ⟨pu,cu,rfl⟩:=hfx.len;have hfi:=fun w (h:ShV w S (.slice pu S.fixes.length cu))=>b16 h;rw [hst] at hok
 cases hR:s9 S with
 |false=>
  simp only [hR,Bool.false_eq_true,if_false] at hfi;rw [hR,xh7] at hok
  repeat' (first|(with_reducible apply b9 b8);rfl;rfl;rfl|(with_reducible apply c9);rfl;(apply Ld.st b8;rfl;(first|exact hS.blkR 0 rfl|exact hS.roR (by assumption) (by assumption));rfl);rfl|(with_reducible apply l8 b8);rfl;rfl;rfl;rfl;omega;rfl|refine yDn (by with_reducible constructor) ?_|(with_reducible apply d6 hS b8);rfl;rfl;rfl;clear hS;intro g w' hS|(with_reducible apply d5 hS b8 (i:=0));(iterate 8 rfl);exact (rfl:_=[_,_,_]);clear hS;intro w' hS;simp only [List.set] at hS|(with_reducible apply d7);rfl;all_goals (intro hb hp;try (exfalso;omega))|(with_reducible apply d8 hS);rfl;rfl;rfl;refine ⟨_,hfi _ (hfx.now hS),?_⟩;clear hS;intro w' hS)
  (focus ((with_reducible apply e6 _ _ _ (by kernel_rfl) (by kernel_rfl) hS);(repeat' ((first|(with_reducible apply j3 b8);rfl;rfl|(first|(with_reducible apply a18);(iterate 4 rfl);rfl;rfl|(with_reducible apply a1X);(iterate 5 rfl)|(with_reducible apply p9);rfl;rfl;rfl;rfl))));all_goals ((with_reducible apply k8);intro w' hS';clear hS;have hS:=hS';clear hS')))
  repeat' (first|(with_reducible apply b9 b8);rfl;rfl;rfl|refine yDn (by with_reducible constructor) ?_|(with_reducible apply e8);rfl;rfl)
  (refine j4 rfl ?_)
  exact ⟨by rw [hok],hS.sub (xh2 _)⟩
 |true=>
  simp only [hR,if_true] at hfi;rw [hR,xh8] at hok;have hpg:=a4A hR;rcases hlast with ⟨rfl,rfl⟩|⟨hi0,y,hy,rfl⟩
  ·rw [xi0 (show (0:Int) < S.page by omega),xh8] at hok
   repeat' (first|(with_reducible apply b9 b8);rfl;rfl;rfl|(with_reducible apply c9);rfl;(apply Ld.st b8;rfl;(first|exact hS.blkR 0 rfl|exact hS.roR (by assumption) (by assumption));rfl);rfl|(with_reducible apply l8 b8);rfl;rfl;rfl;rfl;omega;rfl|refine yDn (by with_reducible constructor) ?_|(with_reducible apply d6 hS b8);rfl;rfl;rfl;clear hS;intro g w' hS|(with_reducible apply d5 hS b8 (i:=0));(iterate 8 rfl);exact (rfl:_=[_,_,_]);clear hS;intro w' hS;simp only [List.set] at hS|(with_reducible apply d7);rfl;all_goals (intro hb hp;try (exfalso;omega))|(with_reducible apply d8 hS);rfl;rfl;rfl;refine ⟨_,hfi _ (hfx.now hS),?_⟩;clear hS;intro w' hS)
   (focus ((with_reducible apply e6 _ _ _ (by kernel_rfl) (by kernel_rfl) hS);(repeat' ((first|(with_reducible apply j3 b8);rfl;rfl|(first|(with_reducible apply a0g);(iterate 4 rfl);rfl|(with_reducible apply a18);(iterate 4 rfl);rfl;rfl|(with_reducible apply p7);rfl;rfl;rfl;rfl))));all_goals ((with_reducible apply k8);intro w' hS';clear hS;have hS:=hS';clear hS')))
   repeat' (first|(with_reducible apply b9 b8);rfl;rfl;rfl|(with_reducible apply f9);rfl;rfl;omega;omega;rfl|refine yDn (by with_reducible constructor) ?_|(with_reducible apply f6);rfl;rfl)
   exact f8 (1,S.page) (by exact Fr.sub_of rfl) ⟨by show 1<=Lp.length;omega,xd3 ⟨by show 0 < 1;omega,_,hx,rfl⟩,hok⟩ hS.drop (by show Lp.length - 1 < Lp.length - 0;omega)
  ·have e1:((i:Int) - 1).toNat=i - 1:=by omega
   have hrow2:(Lp.map fun p=>shC p.1 p.2)[((i:Int) - 1).toNat]?=some (shC y.1 y.2):=by rw [e1];exact d9 (f:=fun p=>shC p.1 p.2) hy
   obtain ⟨S2,u2⟩:=y;dsimp only [shC] at hrow2 hok;by_cases hlp:S2.page < S.page
   ·rw [xi0 hlp,xh8] at hok;have hd1:decide (S.page<=S2.page)=false:=xh9 (by omega)
    repeat' (first|(with_reducible apply b9 b8);rfl;rfl;rfl|(with_reducible apply c9);rfl;(apply Ld.st b8;rfl;(first|exact hS.blkR 0 rfl|exact hS.roR (by assumption) (by assumption));rfl);rfl|(with_reducible apply l8 b8);rfl;rfl;rfl;rfl;omega;rfl|refine yDn (by with_reducible constructor) ?_|(with_reducible apply d6 hS b8);rfl;rfl;rfl;clear hS;intro g w' hS|(with_reducible apply d5 hS b8 (i:=0));(iterate 8 rfl);exact (rfl:_=[_,_,_]);clear hS;intro w' hS;simp only [List.set] at hS|(with_reducible apply d7);rfl;all_goals (intro hb hp;try (exfalso;omega))|(with_reducible apply d8 hS);rfl;rfl;rfl;refine ⟨_,hfi _ (hfx.now hS),?_⟩;clear hS;intro w' hS)
    (focus ((with_reducible apply e6 _ _ _ (by kernel_rfl) (by kernel_rfl) hS);(repeat' ((first|(with_reducible apply a1G);rfl;rfl;omega;omega;rfl|(with_reducible apply j3 b8);rfl;rfl|(with_reducible apply j0);rfl;(intro wd hd;replace hd:St _ _ wd _:=hd;(apply Ld.sc b8;rfl;(first|exact hd.blkC 0 rfl rfl|exact hd.roC0 (by assumption) (by assumption) rfl)));rfl|(with_reducible apply a0s b8);rfl;rfl;rfl;exact xk8 (by omega);omega;rfl|(first|((with_reducible apply a0g);(iterate 4 rfl);first|rfl|assumption)|(with_reducible apply a0c);rfl;rfl;rfl;all_goals (intro hb hp;try (exfalso;omega))|(with_reducible apply p9);rfl;assumption;rfl;rfl|(with_reducible apply p7);rfl;rfl;rfl;rfl))));all_goals ((with_reducible apply k8);intro w' hS';clear hS;have hS:=hS';clear hS')))
    repeat' (first|(with_reducible apply b9 b8);rfl;rfl;rfl|(with_reducible apply f9);rfl;rfl;omega;omega;rfl|refine yDn (by with_reducible constructor) ?_|(with_reducible apply f6);rfl;assumption)
    exact f8 (i + 1,S.page) (by exact Fr.sub_of rfl) ⟨by show i + 1<=Lp.length;omega,xd3 ⟨by show 0 < i + 1;omega,_,hx,rfl⟩,hok⟩ hS.drop (by show Lp.length - (i + 1) < Lp.length - i;omega)
   ·rw [xh9 hlp,xh7] at hok;have hd1:decide (S.page<=S2.page)=true:=xi0 (by omega)
    repeat' (first|(with_reducible apply b9 b8);rfl;rfl;rfl|(with_reducible apply c9);rfl;(apply Ld.st b8;rfl;(first|exact hS.blkR 0 rfl|exact hS.roR (by assumption) (by assumption));rfl);rfl|(with_reducible apply l8 b8);rfl;rfl;rfl;rfl;omega;rfl|refine yDn (by with_reducible constructor) ?_|(with_reducible apply d6 hS b8);rfl;rfl;rfl;clear hS;intro g w' hS|(with_reducible apply d5 hS b8 (i:=0));(iterate 8 rfl);exact (rfl:_=[_,_,_]);clear hS;intro w' hS;simp only [List.set] at hS|(with_reducible apply d7);rfl;all_goals (intro hb hp;try (exfalso;omega))|(with_reducible apply d8 hS);rfl;rfl;rfl;refine ⟨_,hfi _ (hfx.now hS),?_⟩;clear hS;intro w' hS)
    (focus ((with_reducible apply e6 _ _ _ (by kernel_rfl) (by kernel_rfl) hS);(repeat' ((first|(with_reducible apply a1G);rfl;rfl;omega;omega;rfl|(with_reducible apply j3 b8);rfl;rfl|(with_reducible apply j0);rfl;(intro wd hd;replace hd:St _ _ wd _:=hd;(apply Ld.sc b8;rfl;(first|exact hd.blkC 0 rfl rfl|exact hd.roC0 (by assumption) (by assumption) rfl)));rfl|(with_reducible apply a0s b8);rfl;rfl;rfl;exact xk8 (by omega);omega;rfl|(first|((with_reducible apply a0g);(iterate 4 rfl);first|rfl|assumption)|(with_reducible apply a0c);rfl;rfl;rfl;all_goals (intro hb hp;try (exfalso;omega))|(with_reducible apply p9);rfl;assumption;rfl;rfl|(with_reducible apply p7);rfl;rfl;rfl;rfl))));all_goals ((with_reducible apply k8);intro w' hS';clear hS;have hS:=hS';clear hS')))
    repeat' (first|(with_reducible apply b9 b8);rfl;rfl;rfl|refine yDn (by with_reducible constructor) ?_|(with_reducible apply e8);rfl;assumption)
    (refine j4 rfl ?_)
    exact ⟨by rw [hok],hS.sub (xh2 _)⟩
theorem b6c (a b:Fm):a7t Tryz.prog 89 (fmC a) (fmC b) (decide (a=b)):=by
 refine ⟨fun w=>?_,by kernel_rfl⟩
 cases a
 cases b
 unfold fmC;simp [go_sem]
 repeat' split
 all_goals simp_all
theorem b4k (a b:Sw):a7t Tryz.prog 143 (swC a) (swC b) (decide (a=b)):=by
 refine ⟨fun w=>?_,by kernel_rfl⟩
 cases a
 cases b
 unfold swC;simp [go_sem]
 repeat' split
 all_goals simp_all
theorem b75 (a b:En):a7t Tryz.prog 91 (enC a) (enC b) (decide (a=b)):=by
 refine ⟨fun w=>?_,by kernel_rfl⟩
 cases a
 cases b
 unfold enC;simp [go_sem]
 repeat' split
 all_goals simp_all
end Go.Proofs.YtejnpppejalhfabGreat
