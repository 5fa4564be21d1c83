/- Texts that the proof stands on, one behind the other: Ke12, PlRun3, PlRun4, PlRun5, PlRun6. -/
import Derived.Test.YtejnpppejalhfabGreatPRestKernels8
set_option linter.unusedVariables false
set_option linter.unusedSimpArgs false
namespace Go.Proofs.YtejnpppejalhfabGreat
set_option maxRecDepth 100000
set_option maxHeartbeats 8000000
open Go.RowKit Go.Sort
theorem b0V {l:List Sh} {nf ns:Int} {L:List Sc} (h:L.all (t9 l nf ns)=true) {k a:Int} {n:Nm} (hn:n ∈ j6 L k a):∃ x,a0I l n.2.z n.1.page=some x:=by
 unfold j6 at hn;obtain ⟨s,hs,h2⟩:=xq6.1 hn;obtain ⟨e,he,rfl⟩:=xm5.1 h2;have hsc:=a1b.1 (xc7.1 h s hs);obtain ⟨b,hb⟩:=xi2.1 (hsc.ents e (xo7.1 he).1).1;have hm:=xi1 hb;have hh:=xi3 hb;unfold a0g Ar.fin at hh;rw [xb3] at hh;have hp:=hsc.pages;unfold a1L at hp;have h3:=xc7.1 (xc7.1 hp b hm) (e.page - b.pg).toNat (by rw [xi4];omega);rw [show b.pg + (((e.page - b.pg).toNat:Nat):Int)=e.page by omega] at h3;obtain ⟨d,hd⟩:=xi2.1 h3;exact ⟨d,by unfold a0Q;rw [hb];exact hd⟩
theorem a7U (N:List Nm):∃ p q a,a0W N=((N.length:Int),p,q,a)/\(∀ n r,N=n::r->q=a0P N/\(a0P N=true->p=n.1.page/\a.z=n.2.z)):=by
 rcases h:a0W N with ⟨c,p,q,a⟩
 have hl:=b0A N;rw [h] at hl;dsimp only at hl;subst hl;refine ⟨p,q,a,rfl,fun n r e=>?_⟩;subst e;have:=a8x (n:=n) (r:=r);rw [h] at this;exact this
theorem b05 {K:Ker} (h:∀ (j:Nat) f,K.frames[j]?=some f->a1t K.sheets f (j6 K.spaces 1 (j:Nat))=true):a0Y K=true:=by
 unfold a0Y;rw [xc7];intro i _
 cases hf:K.frames[i]? with
 |none=>rfl
 |some f=>exact h i f hf
theorem a19 {K:Ker} {j:Nat} {f:Fm} (hf:K.frames[j]?=some f) (h:a1t K.sheets f (j6 K.spaces 1 (j:Nat))=false):a0Y K=false:=by
 unfold a0Y;rw [xq5];exact ⟨j,xi4.2 (d6 hf),by rw [hf];simpa using h⟩
theorem b1W {K:Ker} (h:∀ (j:Nat) f,K.slots[j]?=some f->a16 f (j6 K.spaces 2 (j:Nat))=true):a1S K=true:=by
 unfold a1S;rw [xc7];intro i _
 cases hf:K.slots[i]? with
 |none=>rfl
 |some f=>exact h i f hf
theorem a28 {K:Ker} {j:Nat} {f:Sw} (hf:K.slots[j]?=some f) (h:a16 f (j6 K.spaces 2 (j:Nat))=false):a1S K=false:=by
 unfold a1S;rw [xq5];exact ⟨j,xi4.2 (d6 hf),by rw [hf];simpa using h⟩
theorem a5M {w:World} {k:KV} (hK:KerV w k):Fn Tryz.prog 24 [.agg (kvC k).toArray] w (RBf (.int .i64 (a0N k.K)) w):=by
 have b1:=hK.fr.bound;have b2:=hK.sl.bound;have b3:=hK.sp.bound;have b4:=hK.sh.sl.bound;have hsf:=fun w1 (h:KerV w1 k) (p:Sp) (hp:p ∈ k.sp)=>a8H h (h.spv p hp);obtain ⟨sh,fr,sl,sp,hand,vsh,vfr,vsl,vsp⟩:=k;have hK0:=hK;obtain ⟨k1,k2,k3,k4,k5⟩:=hK;dsimp only at b1 b2 b3 b4 k1 k2 k3 k4 k5 hsf;obtain ⟨p1,c1,rfl⟩:=k1.sl.len;obtain ⟨p2,c2,rfl⟩:=k2.len;obtain ⟨p3,c3,rfl⟩:=k3.len;obtain ⟨p4,c4,rfl⟩:=k4.len;unfold kvC a0N KV.K;unfold kvC at hsf;dsimp only at hsf |-;by_cases hcnt:a11 ⟨shs sh,fr,sl,sp.map (·.s),hand⟩=true;rotate_left
 ·rw [xf1 hcnt];unfold a11 at hcnt;rw [xb3] at hcnt;dsimp only at hcnt;rw [xi9,a0Z] at hcnt;refine yEn Tryz.func24 Tryz.ntmps24 (by kernel_rfl) (by kernel_rfl) rfl rfl ?_;have hS:=St.start w
  repeat' (first|(with_reducible apply a8 a7);rfl;rfl;rfl|(with_reducible apply a9);rfl;(apply Ld.sl a7;rfl;exact hS.blkC 0 rfl rfl);rfl|refine yDn (by with_reducible constructor) ?_|(with_reducible apply k8);(iterate 4 rfl);assumption|(with_reducible apply x8);(iterate 4 rfl);(first|rfl|assumption);rfl|(with_reducible apply j3);rfl;(first|rfl|assumption);rfl;rfl|(with_reducible apply f5);rfl;assumption;rfl;rfl|(with_reducible apply f6);rfl;rfl|(with_reducible apply l8 hS);rfl;rfl;rfl;clear hS;intro g w' hS|(with_reducible apply q7);rfl;rfl;rfl;all_goals (intro hb hp;try (exfalso;omega))|(with_reducible apply a13);rfl;rfl;rfl;all_goals (intro hb hp;try (exfalso;omega))|(with_reducible apply b9);rfl;all_goals (intro hb hp;try (exfalso;omega))|(with_reducible apply d7 hS);rfl;rfl;rfl;refine ⟨_,p7 _ _ _ _,?_⟩;clear hS;intro w' hS)
  all_goals (apply a0U)
  all_goals (repeat (first|exact ResL.nil|apply ResL.tmp;rfl))
  all_goals (exact ⟨rfl,hS.sub (xj1 _)⟩)
 rw [xf0 hcnt];unfold a11 at hcnt;rw [xb3] at hcnt;dsimp only at hcnt;rw [xi9,a0Z] at hcnt;have hshe:=fun w1 (h:ShsV w1 sh (.slice p1 sh.length c1))=>a7l h;have hfe:a5E ⟨shs sh,fr,sl,sp.map (·.s),hand⟩=((a0C 0 (shs sh) && decide (0<=hand/\hand < (fr.length:Int))) && ((sp.map (·.s)).all (t9 (shs sh) fr.length sl.length) && (decide (a0n (sp.map (·.s))<=(sl.length:Int)) && (a0Y ⟨shs sh,fr,sl,sp.map (·.s),hand⟩ && a1S ⟨shs sh,fr,sl,sp.map (·.s),hand⟩)))):=rfl
 cases hsh:a0C 0 (shs sh) with
 |false=>
  rw [hsh] at hshe hfe;rw [xq1,xq1] at hfe;rw [hfe];refine yEn Tryz.func24 Tryz.ntmps24 (by kernel_rfl) (by kernel_rfl) rfl rfl ?_;have hS:=St.start w
  repeat' (first|(with_reducible apply a8 a7);rfl;rfl;rfl|(with_reducible apply a9);rfl;(apply Ld.sl a7;rfl;exact hS.blkC 0 rfl rfl);rfl|refine yDn (by with_reducible constructor) ?_|(with_reducible apply k8);(iterate 4 rfl);assumption|(with_reducible apply x8);(iterate 4 rfl);rfl;rfl|(with_reducible apply j3);rfl;rfl;rfl;rfl|(with_reducible apply f5);rfl;assumption;rfl;rfl|(with_reducible apply f6);rfl;rfl|(with_reducible apply l8 hS);rfl;rfl;rfl;clear hS;intro g w' hS|(with_reducible apply q7);rfl;rfl;rfl;all_goals (intro hb hp;try (exfalso;omega))|(with_reducible apply a13);rfl;rfl;rfl;all_goals (intro hb hp;try (exfalso;omega))|(with_reducible apply b9);rfl;all_goals (intro hb hp;try (exfalso;omega))|(with_reducible apply d7 hS);rfl;rfl;rfl;refine ⟨_,p7 _ _ _ _,?_⟩;clear hS;intro w' hS|(with_reducible apply d7 hS);rfl;rfl;rfl;refine ⟨_,hshe _ (k1.now hS),?_⟩;clear hS;intro w' hS)
  (refine k7 rfl ?_)
  exact ⟨rfl,hS.sub (xj1 _)⟩
 |true=>
  rw [hsh] at hshe hfe;rw [xq0] at hfe;by_cases hh:0<=hand/\hand<=(fr.length:Int) - 1;rotate_left
  ·rw [xj0 (fun h=>hh ⟨h.1,by omega⟩),xq1] at hfe;rw [hfe];refine yEn Tryz.func24 Tryz.ntmps24 (by kernel_rfl) (by kernel_rfl) rfl rfl ?_;have hS:=St.start w
   repeat' (first|(with_reducible apply a8 a7);rfl;rfl;rfl|(with_reducible apply a9);rfl;(first|apply Ld.sc a7;rfl;exact hS.blkC 0 rfl rfl|apply Ld.sl a7;rfl;exact hS.blkC 0 rfl rfl);rfl|(with_reducible apply a0m);rfl;rfl;omega;omega;rfl|refine yDn (by with_reducible constructor) ?_|((with_reducible apply k8);(iterate 4 rfl);first|rfl|assumption)|(with_reducible apply f5);rfl;(first|rfl|assumption);rfl;rfl|(with_reducible apply l8 hS);rfl;rfl;rfl;clear hS;intro g w' hS|(with_reducible apply q7);rfl;rfl;rfl;all_goals (intro hb hp;try (exfalso;omega))|(with_reducible apply a13);rfl;rfl;rfl;all_goals (intro hb hp;try (exfalso;omega))|(with_reducible apply b9);rfl;all_goals (intro hb hp;try (exfalso;omega))|(with_reducible apply a08);rfl;all_goals (intro hb hp;try (exfalso;omega))|(with_reducible apply d7 hS);rfl;rfl;rfl;refine ⟨_,p7 _ _ _ _,?_⟩;clear hS;intro w' hS|(with_reducible apply d7 hS);rfl;rfl;rfl;refine ⟨_,hshe _ (k1.now hS),?_⟩;clear hS;intro w' hS)
   (refine k7 rfl ?_)
   exact ⟨rfl,hS.sub (xj1 _)⟩
  rw [xj2 (⟨hh.1,by omega⟩:0<=hand/\hand < (fr.length:Int)),xq0] at hfe;refine yEn Tryz.func24 Tryz.ntmps24 (by kernel_rfl) (by kernel_rfl) rfl rfl ?_;have hS:=St.start w
  repeat' (first|(with_reducible apply a8 a7);rfl;rfl;rfl|(with_reducible apply a9);rfl;(first|apply Ld.sc a7;rfl;exact hS.blkC 0 rfl rfl|apply Ld.sl a7;rfl;exact hS.blkC 0 rfl rfl);rfl|(with_reducible apply a0m);rfl;rfl;omega;omega;rfl|refine yDn (by with_reducible constructor) ?_|((with_reducible apply k8);(iterate 4 rfl);first|rfl|assumption)|(with_reducible apply f5);rfl;(first|rfl|assumption);rfl;rfl|(with_reducible apply l8 hS);rfl;rfl;rfl;clear hS;intro g w' hS|(with_reducible apply q7);rfl;rfl;rfl;all_goals (intro hb hp;try (exfalso;omega))|(with_reducible apply a13);rfl;rfl;rfl;all_goals (intro hb hp;try (exfalso;omega))|(with_reducible apply b9);rfl;all_goals (intro hb hp;try (exfalso;omega))|(with_reducible apply a08);rfl;all_goals (intro hb hp;try (exfalso;omega))|(with_reducible apply d7 hS);rfl;rfl;rfl;refine ⟨_,p7 _ _ _ _,?_⟩;clear hS;intro w' hS|(with_reducible apply d7 hS);rfl;rfl;rfl;refine ⟨_,hshe _ (k1.now hS),?_⟩;clear hS;intro w' hS)
  refine a2j hS 3 [1] rfl sp.length (fun i=>((sp.map (·.s)).take i).all (t9 (shs sh) fr.length sl.length)=true) 0 rfl (xg4 _) rfl ?_;rintro i w1 hi hall hS';clear hS;have hS:=hS';clear hS';by_cases hlt:i < sp.length
  ·obtain ⟨x,hx⟩:=j0 (l:=sp) (i:=i) (by omega);have hxs:(sp.map (·.s))[i]?=some x.s:=c9 (f:=fun p:Sp=>p.s) hx;have hrow:=c9 (f:=spC) hx;obtain ⟨b,off,rfl,hro⟩:=k4.at_ (i:=i) hlt;have hfx:=fun w1 h=>hsf w1 h x (xd0 hx)
   cases hsp:t9 (shs sh) fr.length sl.length x.s with
   |false=>
    rw [hsp] at hfx
    repeat' (first|(with_reducible apply a8 a7);rfl;rfl;rfl|(with_reducible apply a9);rfl;(apply Ld.sl a7;rfl;exact hS.blkC 0 rfl rfl);rfl|refine yDn (by with_reducible constructor) ?_|(with_reducible apply b9);rfl;all_goals (intro hb hp;try (exfalso;omega)))
    (focus ((with_reducible apply d9 _ _ _ (by kernel_rfl) (by kernel_rfl) hS);(repeat' (first|(first|(with_reducible apply i7 a7);rfl;rfl|(with_reducible apply i9);rfl;(intro wd hd;replace hd:St _ _ wd _:=hd;(first|apply Ld.sl a7;rfl;exact hd.blkC 0 rfl rfl|apply Ld.st a7;rfl;(first|exact hd.blkR 0 rfl|exact hd.roR (by assumption) (by assumption));rfl));rfl|(with_reducible apply y8 a7);rfl;rfl;rfl;rfl;omega;rfl)|(with_reducible apply y7);rfl;rfl;rfl;refine ⟨_,fun wd hd=>hfx _ (hK0.now hd),?_⟩));all_goals ((with_reducible apply j7);intro w' hS';clear hS;have hS:=hS';clear hS')))
    repeat' (first|(with_reducible apply a8 a7);rfl;rfl;rfl|refine yDn (by with_reducible constructor) ?_|(with_reducible apply f6);rfl;rfl)
    (refine k7 rfl ?_)
    refine ⟨?_,hS.sub (xj1 _)⟩;have hno:(sp.map (·.s)).all (t9 (shs sh) fr.length sl.length)=false:=by
     rw [xq5];exact ⟨x.s,xd0 hxs,by rw [hsp];simp⟩
    rw [hfe,hno,xq1];rfl
   |true=>
    rw [hsp] at hfx
    repeat' (first|(with_reducible apply a8 a7);rfl;rfl;rfl|(with_reducible apply a9);rfl;(apply Ld.sl a7;rfl;exact hS.blkC 0 rfl rfl);rfl|refine yDn (by with_reducible constructor) ?_|(with_reducible apply b9);rfl;all_goals (intro hb hp;try (exfalso;omega)))
    (focus ((with_reducible apply d9 _ _ _ (by kernel_rfl) (by kernel_rfl) hS);(repeat' (first|(first|(with_reducible apply i7 a7);rfl;rfl|(with_reducible apply i9);rfl;(intro wd hd;replace hd:St _ _ wd _:=hd;(first|apply Ld.sl a7;rfl;exact hd.blkC 0 rfl rfl|apply Ld.st a7;rfl;(first|exact hd.blkR 0 rfl|exact hd.roR (by assumption) (by assumption));rfl));rfl|(with_reducible apply y8 a7);rfl;rfl;rfl;rfl;omega;rfl)|(with_reducible apply y7);rfl;rfl;rfl;refine ⟨_,fun wd hd=>hfx _ (hK0.now hd),?_⟩));all_goals ((with_reducible apply j7);intro w' hS';clear hS;have hS:=hS';clear hS')))
    repeat' (first|(with_reducible apply a8 a7);rfl;rfl;rfl|(with_reducible apply j4);rfl;rfl;omega;omega;rfl|refine yDn (by with_reducible constructor) ?_|(with_reducible apply f8);rfl;rfl)
    refine a0O (i + 1) (by exact Fr.sub_of rfl) (by omega) ?_ (by omega) hS;rw [r8 hxs,List.all_append,hall,xo6,hsp];rfl
  have hspa:(sp.map (·.s)).all (t9 (shs sh) fr.length sl.length)=true:=by
   rw [xa0 (by rw [xi9];omega)] at hall;exact hall
  clear hall;rw [hspa,xq0] at hfe;have hokp:∀ p ∈ sp,t9 (shs sh) fr.length sl.length p.s=true:=fun p hp=>xc7.1 hspa p.s (xm5.2 ⟨p,hp,rfl⟩);have hchk:∀ p ∈ sp,l5 p.s.areas=0:=fun p hp=>(a1b.1 (hokp p hp)).ar;have hroom:=fun w1 h=>b5x (w:=w1) (k:=⟨sh,fr,sl,sp,hand,.slice p1 sh.length c1,.slice p2 fr.length c2,.slice p3 sl.length c3,.slice p4 sp.length c4⟩) h hchk (by show sp.length<=4;omega);have hnm:=fun w1 h kd a=>b2n (w:=w1) (k:=⟨sh,fr,sl,sp,hand,.slice p1 sh.length c1,.slice p2 fr.length c2,.slice p3 sl.length c3,.slice p4 sp.length c4⟩) h hchk (by show sp.length<=4;omega) (fun p hp=>(a5h (hokp p hp)).1) kd a;unfold kvC at hroom hnm;dsimp only at hroom hnm;by_cases hrm:(sl.length:Int) < a0n (sp.map (·.s))
  ·rw [xj0 (by omega),xq1] at hfe;rw [hfe]
   repeat' (first|(with_reducible apply a8 a7);rfl;rfl;rfl|(with_reducible apply a9);rfl;(apply Ld.sl a7;rfl;exact hS.blkC 0 rfl rfl);rfl|refine yDn (by with_reducible constructor) ?_|(with_reducible apply b9);rfl;all_goals (intro hb hp;try (exfalso;omega)))
   (focus ((with_reducible apply d9 _ _ _ (by kernel_rfl) (by kernel_rfl) hS);(repeat' (first|(first|(with_reducible apply i7 a7);rfl;rfl|(with_reducible apply i9);rfl;(intro wd hd;replace hd:St _ _ wd _:=hd;(first|apply Ld.sl a7;rfl;exact hd.blkC 0 rfl rfl|apply Ld.st a7;rfl;exact hd.blkR 0 rfl;rfl));rfl)|(with_reducible apply y7);rfl;rfl;rfl;refine ⟨_,fun wd hd=>hroom _ (hK0.now hd),?_⟩));all_goals ((with_reducible apply j7);intro w' hS';clear hS;have hS:=hS';clear hS')))
   repeat' (first|(with_reducible apply a8 a7);rfl;rfl;rfl|refine yDn (by with_reducible constructor) ?_|(with_reducible apply b9);rfl;all_goals (intro hb hp;try (exfalso;omega)))
   (refine k7 rfl ?_)
   exact ⟨rfl,hS.sub (xj1 _)⟩
  rw [xj2 (by omega),xq0] at hfe
  repeat' (first|(with_reducible apply a8 a7);rfl;rfl;rfl|(with_reducible apply a9);rfl;(apply Ld.sl a7;rfl;exact hS.blkC 0 rfl rfl);rfl|refine yDn (by with_reducible constructor) ?_|(with_reducible apply b9);rfl;all_goals (intro hb hp;try (exfalso;omega)))
  (focus ((with_reducible apply d9 _ _ _ (by kernel_rfl) (by kernel_rfl) hS);(repeat' (first|(first|(with_reducible apply i7 a7);rfl;rfl|(with_reducible apply i9);rfl;(intro wd hd;replace hd:St _ _ wd _:=hd;(first|apply Ld.sl a7;rfl;exact hd.blkC 0 rfl rfl|apply Ld.st a7;rfl;exact hd.blkR 0 rfl;rfl));rfl)|(with_reducible apply y7);rfl;rfl;rfl;refine ⟨_,fun wd hd=>hroom _ (hK0.now hd),?_⟩));all_goals ((with_reducible apply j7);intro w' hS';clear hS;have hS:=hS';clear hS')))
  repeat' (first|(with_reducible apply a8 a7);rfl;rfl;rfl|refine yDn (by with_reducible constructor) ?_|(with_reducible apply b9);rfl;all_goals (intro hb hp;try (exfalso;omega)))
  refine a2j hS 4 [1] rfl fr.length (fun i=>∀ (j:Nat) f,j < i->fr[j]?=some f->a1t (shs sh) f (j6 (sp.map (·.s)) 1 (j:Nat))=true) 0 rfl (xg4 _) (fun _ _ h=>absurd h (Nat.not_lt_zero _)) ?_;rintro i w2 hi hall hS';clear hS;have hS:=hS';clear hS';by_cases hlt:i < fr.length
  ·obtain ⟨f,hf⟩:=j0 (l:=fr) (i:=i) (by omega);have hrow:=c9 (f:=fmC) hf;obtain ⟨b,off,rfl,hro⟩:=k2.at_ (i:=i) hlt;unfold fmC at hrow;have hn1:=fun w1 h=>hnm w1 h 1 (i:Nat);obtain ⟨p,q,a,hN,hN2⟩:=a7U (j6 (sp.map (·.s)) 1 (i:Nat));unfold nmV at hn1;rw [hN] at hn1;have hfl:=fun x (hx:a0I (shs sh) a.z p=some x) w1 h=>a86 (w:=w1) (k:=⟨sh,fr,sl,sp,hand,.slice p1 sh.length c1,.slice (some ⟨b,off,none⟩) fr.length c2,.slice p3 sl.length c3,.slice p4 sp.length c4⟩) h (a:=a) (p:=p) (x:=x) hsh hx;unfold kvC at hfl;unfold arC at hn1 hfl;dsimp only at hn1 hfl;have hfn:=fun n (hn:n ∈ j6 (sp.map (·.s)) 1 (i:Nat))=>b0V hspa hn;obtain ⟨N,hNN⟩:∃ N,N=j6 (sp.map (·.s)) 1 (i:Nat):=⟨_,rfl⟩;rw [<- hNN] at hn1 hN2 hfn;obtain ⟨c,hc⟩:∃ c:Int,c=(N.length:Int):=⟨_,rfl⟩;rw [<- hc] at hn1;obtain ⟨dt,rf,dy,sn⟩:=f;dsimp only at hrow;have hfil:=hfl;have heq:=True.intro
   repeat' (first|(with_reducible apply a8 a7);rfl;rfl;rfl|(with_reducible apply a9);rfl;(first|apply Ld.sl a7;rfl;exact hS.blkC 0 rfl rfl|apply Ld.st a7;rfl;(first|exact hS.blkR 1 rfl|exact hS.roR (by assumption) (by assumption));rfl);rfl|(with_reducible apply l7 a7);rfl;rfl;rfl;rfl;omega;rfl|refine yDn (by with_reducible constructor) ?_|(with_reducible apply d8 hS a7);rfl;rfl;rfl;clear hS;intro g w' hS|(with_reducible apply b8 hS a7 (i:=0));(iterate 8 rfl);exact (rfl:_=[_,_,_,_]);clear hS;intro w' hS;simp only [List.set] at hS|(with_reducible apply b9);rfl;all_goals (intro hb hp;try (exfalso;omega))|(with_reducible apply d7 hS);rfl;rfl;rfl;refine ⟨_,hn1 _ (hK0.now hS),?_⟩;clear hS;intro w' hS)
   by_cases hr:rf=c;rotate_left
   ·have hdr:(!decide (rf=c))=true:=by rw [xj0 hr];rfl
    (focus ((with_reducible apply d9 _ _ _ (by kernel_rfl) (by kernel_rfl) hS);(repeat' ((first|(with_reducible apply i7 a7);rfl;rfl|(with_reducible apply i9);rfl;(intro wd hd;replace hd:St _ _ wd _:=hd;(apply Ld.sc a7;rfl;exact hd.blkC 1 rfl rfl));rfl|(first|(with_reducible apply a14);(iterate 4 rfl);(first|rfl|assumption);rfl|(with_reducible apply a2G);(iterate 5 rfl)|(with_reducible apply t7);rfl;(first|rfl|assumption);rfl;rfl))));all_goals ((with_reducible apply j7);intro w' hS';clear hS;have hS:=hS';clear hS')))
    repeat' (first|(with_reducible apply a8 a7);rfl;rfl;rfl|refine yDn (by with_reducible constructor) ?_|(with_reducible apply f6);rfl;rfl)
    (refine k7 rfl ?_)
    refine ⟨?_,hS.sub (xj1 _)⟩;rw [hfe,a19 hf (by rw [<- hNN,xq9];exact fun h=>hr ((a2t.1 h).refs.trans hc.symm)),xq1];rfl
   have hdr:(!decide (rf=c))=false:=by rw [xj2 hr];rfl
   cases N with
   |nil=>
    have hz:decide (c=0)=true:=xj2 hc;have hgt:decide (0 < c)=false:=xj0 (by rw [hc];simp);by_cases h0:(⟨dt,rf,dy,sn⟩:Fm)=fm0
    ·have heq:=b5p (⟨dt,rf,dy,sn⟩:Fm) fm0;rw [xj2 h0] at heq
     (focus ((with_reducible apply d9 _ _ _ (by kernel_rfl) (by kernel_rfl) hS);(repeat' (first|(first|(with_reducible apply i7 a7);rfl;rfl|(with_reducible apply i9);rfl;(intro wd hd;replace hd:St _ _ wd _:=hd;(first|apply Ld.sc a7;rfl;exact hd.blkC 1 rfl rfl|apply Ld.st a7;rfl;exact hd.blkR 1 rfl;rfl));rfl|(with_reducible apply a1Z a7);rfl;rfl;exact (rfl:_=some [_,_,_,_]);rfl|(first|((with_reducible apply a0t);(iterate 4 rfl);first|rfl|assumption)|(with_reducible apply a14);(iterate 4 rfl);assumption;rfl|(with_reducible apply a2G);(iterate 5 rfl)|(with_reducible apply t7);rfl;assumption;rfl;rfl|(with_reducible apply r7);rfl;(first|rfl|assumption);rfl;rfl))|(with_reducible apply a6k);rfl;rfl;exact heq;rfl));all_goals ((with_reducible apply j7);intro w' hS';clear hS;have hS:=hS';clear hS')))
     repeat' (first|(with_reducible apply a8 a7);rfl;rfl;rfl|(with_reducible apply j4);rfl;rfl;omega;omega;rfl|refine yDn (by with_reducible constructor) ?_|(with_reducible apply f8);rfl;rfl)
     refine a0O (i + 1) (by exact Fr.sub_of rfl) (by omega) (fun j y hj hy=>?_) (by omega) hS.drop.drop;by_cases e:j=i
     ·subst e;rw [hf] at hy
      cases hy
      exact by rw [<- hNN];exact xj2 h0
     ·exact hall j y (by omega) hy
    ·have heq:=b5p (⟨dt,rf,dy,sn⟩:Fm) fm0;rw [xj0 h0] at heq
     (focus ((with_reducible apply d9 _ _ _ (by kernel_rfl) (by kernel_rfl) hS);(repeat' (first|(first|(with_reducible apply i7 a7);rfl;rfl|(with_reducible apply i9);rfl;(intro wd hd;replace hd:St _ _ wd _:=hd;(first|apply Ld.sc a7;rfl;exact hd.blkC 1 rfl rfl|apply Ld.st a7;rfl;exact hd.blkR 1 rfl;rfl));rfl|(with_reducible apply a1Z a7);rfl;rfl;exact (rfl:_=some [_,_,_,_]);rfl|(first|(with_reducible apply a0t);(iterate 4 rfl);assumption|(with_reducible apply a14);(iterate 4 rfl);rfl;rfl|(with_reducible apply a2G);(iterate 5 rfl)|(with_reducible apply t7);rfl;(first|rfl|assumption);rfl;rfl|(with_reducible apply r7);rfl;assumption;rfl;rfl))|(with_reducible apply a6k);rfl;rfl;exact heq;rfl));all_goals ((with_reducible apply j7);intro w' hS';clear hS;have hS:=hS';clear hS')))
     repeat' (first|(with_reducible apply a8 a7);rfl;rfl;rfl|refine yDn (by with_reducible constructor) ?_|(with_reducible apply f6);rfl;rfl)
     (refine k7 rfl ?_)
     refine ⟨?_,hS.sub (xj1 _)⟩;rw [hfe,a19 hf (by rw [<- hNN];exact xj0 h0),xq1];rfl
   |cons n0 r=>
    rw [xb1] at hc;have hz:decide (c=0)=false:=xj0 (by omega);have hgt:decide (0 < c)=true:=xj2 (by omega);obtain ⟨hq1,hq2⟩:=hN2 n0 r rfl
    cases hal:a0P (n0::r) with
    |false=>
     rw [hal] at hq1;subst hq1
     (focus ((with_reducible apply d9 _ _ _ (by kernel_rfl) (by kernel_rfl) hS);(repeat' ((first|(with_reducible apply i7 a7);rfl;rfl|(with_reducible apply i9);rfl;(intro wd hd;replace hd:St _ _ wd _:=hd;(apply Ld.sc a7;rfl;exact hd.blkC 1 rfl rfl));rfl|(first|((with_reducible apply a0t);(iterate 4 rfl);first|rfl|assumption)|(with_reducible apply a14);(iterate 4 rfl);(first|rfl|assumption);rfl|(with_reducible apply a2G);(iterate 5 rfl)|(with_reducible apply t7);rfl;(first|rfl|assumption);rfl;rfl|(with_reducible apply r7);rfl;(first|rfl|assumption);rfl;rfl))));all_goals ((with_reducible apply j7);intro w' hS';clear hS;have hS:=hS';clear hS')))
     repeat' (first|(with_reducible apply a8 a7);rfl;rfl;rfl|refine yDn (by with_reducible constructor) ?_|(with_reducible apply f6);rfl;rfl)
     (refine k7 rfl ?_)
     refine ⟨?_,hS.sub (xj1 _)⟩;rw [hfe,a19 hf (by rw [<- hNN,xq9];intro h;rw [a3c.2 (a2t.1 h).same] at hal;cases hal),xq1];rfl
    |true=>
     obtain ⟨rfl,hza⟩:=hq2 hal;rw [hal] at hq1;subst hq1;by_cases hl:(dt.length:Int)=16;rotate_left
     ·have hdl:(!decide ((dt.length:Int)=16))=true:=by rw [xj0 hl];rfl
      (focus ((with_reducible apply d9 _ _ _ (by kernel_rfl) (by kernel_rfl) hS);(repeat' ((first|(with_reducible apply i7 a7);rfl;rfl|(with_reducible apply i9);rfl;(intro wd hd;replace hd:St _ _ wd _:=hd;(apply Ld.sc a7;rfl;exact hd.blkC 1 rfl rfl));rfl|(first|((with_reducible apply a0t);(iterate 4 rfl);first|rfl|assumption)|(with_reducible apply a14);(iterate 4 rfl);assumption;rfl|(with_reducible apply a2G);(iterate 5 rfl)|(with_reducible apply t7);rfl;assumption;rfl;rfl|(with_reducible apply r7);rfl;(first|rfl|assumption);rfl;rfl))));all_goals ((with_reducible apply j7);intro w' hS';clear hS;have hS:=hS';clear hS')))
      repeat' (first|(with_reducible apply a8 a7);rfl;rfl;rfl|refine yDn (by with_reducible constructor) ?_|(with_reducible apply f6);rfl;rfl)
      (refine k7 rfl ?_)
      refine ⟨?_,hS.sub (xj1 _)⟩;rw [hfe,a19 hf (by rw [<- hNN,xq9];exact fun h=>hl (by rw [(a2t.1 h).len (by simp)];rfl)),xq1];rfl
     have hdl:(!decide ((dt.length:Int)=16))=false:=by rw [xj2 hl];rfl
     have hbase:∀ c:Bool,a1t (shs sh) ⟨dt,rf,dy,sn⟩ (n0::r)=(decide (rf=((n0::r).length:Int)/\dt.length=16) && (a0P (n0::r) && (dy||decide (some dt=a0I (shs sh) n0.2.z n0.1.page)))):=fun _=>rfl;have hbase:=hbase true;rw [hal,xj2 (⟨hr.trans hc,by omega⟩:rf=((n0::r).length:Int)/\dt.length=16),xq0,xq0] at hbase
     cases dy with
     |true=>
      (focus ((with_reducible apply d9 _ _ _ (by kernel_rfl) (by kernel_rfl) hS);(repeat' ((first|(with_reducible apply i7 a7);rfl;rfl|(with_reducible apply i9);rfl;(intro wd hd;replace hd:St _ _ wd _:=hd;(apply Ld.sc a7;rfl;exact hd.blkC 1 rfl rfl));rfl|(first|((with_reducible apply a0t);(iterate 4 rfl);first|rfl|assumption)|(with_reducible apply a14);(iterate 4 rfl);(first|rfl|assumption);rfl|(with_reducible apply t7);rfl;assumption;rfl;rfl|(with_reducible apply r7);rfl;(first|rfl|assumption);rfl;rfl))));all_goals ((with_reducible apply j7);intro w' hS';clear hS;have hS:=hS';clear hS')))
      repeat' (first|(with_reducible apply a8 a7);rfl;rfl;rfl|(with_reducible apply j4);rfl;rfl;omega;omega;rfl|refine yDn (by with_reducible constructor) ?_|(with_reducible apply f8);rfl;rfl)
      refine a0O (i + 1) (by exact Fr.sub_of rfl) (by omega) (fun j y hj hy=>?_) (by omega) hS.drop.drop;by_cases e:j=i
      ·subst e;rw [hf] at hy
       cases hy
       exact by rw [<- hNN];exact hbase
      ·exact hall j y (by omega) hy
     |false=>
      obtain ⟨x,hx⟩:=hfn n0 xc5;rw [hx,xo1] at hbase;have hfil:=hfl x (by rw [hza];exact hx);by_cases hxd:dt=x
      ·have hdx:(!decide (dt=x))=false:=by rw [xj2 hxd];rfl
       (focus ((with_reducible apply d9 _ _ _ (by kernel_rfl) (by kernel_rfl) hS);(repeat' (first|(first|(with_reducible apply i7 a7);rfl;rfl|(with_reducible apply i9);rfl;(intro wd hd;replace hd:St _ _ wd _:=hd;(first|apply Ld.sc a7;rfl;exact hd.blkC 1 rfl rfl|apply Ld.st a7;rfl;(first|exact hd.blkR 0 rfl|exact hd.blkR 2 rfl);rfl));rfl|(first|((with_reducible apply a0t);(iterate 4 rfl);first|rfl|assumption)|(with_reducible apply a14);(iterate 4 rfl);assumption;rfl|(with_reducible apply t7);rfl;(first|rfl|assumption);rfl;rfl|(with_reducible apply r7);rfl;(first|rfl|assumption);rfl;rfl))|(with_reducible apply y7);rfl;rfl;rfl;refine ⟨_,fun wd hd=>hfil _ (hK0.now hd),?_⟩));all_goals ((with_reducible apply j7);intro w' hS';clear hS;have hS:=hS';clear hS')))
       repeat' (first|(with_reducible apply a8 a7);rfl;rfl;rfl|(with_reducible apply j4);rfl;rfl;omega;omega;rfl|refine yDn (by with_reducible constructor) ?_|(with_reducible apply f8);rfl;assumption)
       refine a0O (i + 1) (by exact Fr.sub_of rfl) (by omega) (fun j y hj hy=>?_) (by omega) hS.drop.drop;by_cases e:j=i
       ·subst e;rw [hf] at hy
        cases hy
        exact by rw [<- hNN,hbase];exact xj2 (by rw [hxd])
       ·exact hall j y (by omega) hy
      ·have hdx:(!decide (dt=x))=true:=by rw [xj0 hxd];rfl
       (focus ((with_reducible apply d9 _ _ _ (by kernel_rfl) (by kernel_rfl) hS);(repeat' (first|(first|(with_reducible apply i7 a7);rfl;rfl|(with_reducible apply i9);rfl;(intro wd hd;replace hd:St _ _ wd _:=hd;(first|apply Ld.sc a7;rfl;exact hd.blkC 1 rfl rfl|apply Ld.st a7;rfl;(first|exact hd.blkR 0 rfl|exact hd.blkR 2 rfl);rfl));rfl|(first|((with_reducible apply a0t);(iterate 4 rfl);first|rfl|assumption)|(with_reducible apply a14);(iterate 4 rfl);assumption;rfl|(with_reducible apply t7);rfl;(first|rfl|assumption);rfl;rfl|(with_reducible apply r7);rfl;(first|rfl|assumption);rfl;rfl))|(with_reducible apply y7);rfl;rfl;rfl;refine ⟨_,fun wd hd=>hfil _ (hK0.now hd),?_⟩));all_goals ((with_reducible apply j7);intro w' hS';clear hS;have hS:=hS';clear hS')))
       repeat' (first|(with_reducible apply a8 a7);rfl;rfl;rfl|refine yDn (by with_reducible constructor) ?_|(with_reducible apply f6);rfl;assumption)
       (refine k7 rfl ?_)
       refine ⟨?_,hS.sub (xj1 _)⟩;rw [hfe,a19 hf (by rw [<- hNN,hbase];exact xj0 (fun h=>hxd (Option.some.inj h))),xq1];rfl
  have hfb:a0Y ⟨shs sh,fr,sl,sp.map (·.s),hand⟩=true:=b05 (fun j f hf=>hall j f (by have:=d6 hf;have h9:(⟨shs sh,fr,sl,sp.map (·.s),hand⟩:Ker).frames.length=fr.length:=rfl;omega) hf);clear hall;rw [hfb,xq0] at hfe
  repeat' (first|(with_reducible apply a8 a7);rfl;rfl;rfl|(with_reducible apply a9);rfl;(apply Ld.sl a7;rfl;exact hS.blkC 0 rfl rfl);rfl|refine yDn (by with_reducible constructor) ?_|(with_reducible apply b9);rfl;all_goals (intro hb hp;try (exfalso;omega)))
  refine a2j hS 10 [1] rfl sl.length (fun i=>∀ (j:Nat) f,j < i->sl[j]?=some f->a16 f (j6 (sp.map (·.s)) 2 (j:Nat))=true) 0 rfl (xg4 _) (fun _ _ h=>absurd h (Nat.not_lt_zero _)) ?_;rintro i w3 hi hall hS';clear hS;have hS:=hS';clear hS';by_cases hlt:i < sl.length;rotate_left
  ·rw [b1W (fun j f hf=>hall j f (by have:=d6 hf;have h9:(⟨shs sh,fr,sl,sp.map (·.s),hand⟩:Ker).slots.length=sl.length:=rfl;omega) hf)] at hfe;rw [hfe]
   repeat' (first|(with_reducible apply a8 a7);rfl;rfl;rfl|(with_reducible apply a9);rfl;(apply Ld.sl a7;rfl;exact hS.blkC 0 rfl rfl);rfl|refine yDn (by with_reducible constructor) ?_|(with_reducible apply b9);rfl;all_goals (intro hb hp;try (exfalso;omega)))
   (refine k7 rfl ?_)
   exact ⟨rfl,hS.sub (xj1 _)⟩
  obtain ⟨f,hf⟩:=j0 (l:=sl) (i:=i) (by omega);have hrow:=c9 (f:=swC) hf;obtain ⟨b,off,rfl,hro⟩:=k3.at_ (i:=i) hlt;unfold swC at hrow;have hn1:=fun w1 h=>hnm w1 h 2 (i:Nat);obtain ⟨p,q,a,hN,hN2⟩:=a7U (j6 (sp.map (·.s)) 2 (i:Nat));unfold nmV at hn1;rw [hN] at hn1;unfold arC at hn1;dsimp only at hn1;obtain ⟨N,hNN⟩:∃ N,N=j6 (sp.map (·.s)) 2 (i:Nat):=⟨_,rfl⟩;rw [<- hNN] at hn1 hN2;obtain ⟨c,hc⟩:∃ c:Int,c=(N.length:Int):=⟨_,rfl⟩;rw [<- hc] at hn1;obtain ⟨dt,rf⟩:=f;dsimp only at hrow;have heq:=True.intro;by_cases hr:rf=c;rotate_left
  ·have hdr:(!decide (rf=c))=true:=by rw [xj0 hr];rfl
   repeat' (first|(with_reducible apply a8 a7);rfl;rfl;rfl|(with_reducible apply a9);rfl;(first|apply Ld.sc a7;rfl;exact hS.blkC 1 rfl rfl|apply Ld.sl a7;rfl;exact hS.blkC 0 rfl rfl|apply Ld.st a7;rfl;(first|exact hS.blkR 1 rfl|exact hS.roR (by assumption) (by assumption));rfl);rfl|(with_reducible apply l7 a7);rfl;rfl;rfl;rfl;omega;rfl|refine yDn (by with_reducible constructor) ?_|(with_reducible apply x8);(iterate 4 rfl);(first|rfl|assumption);rfl|(with_reducible apply a1r);(iterate 5 rfl)|(with_reducible apply j3);rfl;(first|rfl|assumption);rfl;rfl|(with_reducible apply f6);rfl;rfl|(with_reducible apply d8 hS a7);rfl;rfl;rfl;clear hS;intro g w' hS|(with_reducible apply b8 hS a7 (i:=0));(iterate 8 rfl);(first|exact (rfl:_=[_,_])|exact (rfl:_=[_,_,_,_]));clear hS;intro w' hS;simp only [List.set] at hS|(with_reducible apply b9);rfl;all_goals (intro hb hp;try (exfalso;omega))|(with_reducible apply d7 hS);rfl;rfl;rfl;refine ⟨_,hn1 _ (hK0.now hS),?_⟩;clear hS;intro w' hS)
   (refine k7 rfl ?_)
   refine ⟨?_,hS.sub (xj1 _)⟩;rw [hfe,a28 hf (by rw [<- hNN,xq9];exact fun h=>hr ((a2N.1 h).refs.trans hc.symm))];rfl
  have hdr:(!decide (rf=c))=false:=by rw [xj2 hr];rfl
  cases N with
  |nil=>
   have hz:decide (c=0)=true:=xj2 hc;have hgt:decide (0 < c)=false:=xj0 (by rw [hc];simp);by_cases h0:(⟨dt,rf⟩:Sw)=sw0
   ·have heq:=b22 (⟨dt,rf⟩:Sw) sw0;rw [xj2 h0] at heq
    repeat' (first|(with_reducible apply a8 a7);rfl;rfl;rfl|(with_reducible apply a9);rfl;(first|apply Ld.sc a7;rfl;exact hS.blkC 1 rfl rfl|apply Ld.sl a7;rfl;exact hS.blkC 0 rfl rfl|apply Ld.st a7;rfl;(first|exact hS.blkR 1 rfl|exact hS.roR (by assumption) (by assumption));rfl);rfl|(with_reducible apply l7 a7);rfl;rfl;rfl;rfl;omega;rfl|(with_reducible apply j4);rfl;rfl;omega;omega;rfl|(with_reducible apply n7 a7);rfl;rfl;exact (rfl:_=some [_,_]);rfl|refine yDn (by with_reducible constructor) ?_|((with_reducible apply k8);(iterate 4 rfl);first|rfl|assumption)|(with_reducible apply x8);(iterate 4 rfl);assumption;rfl|(with_reducible apply a1r);(iterate 5 rfl)|(with_reducible apply j3);rfl;assumption;rfl;rfl|(with_reducible apply f5);rfl;(first|rfl|assumption);rfl;rfl|(with_reducible apply f8);rfl;rfl|(with_reducible apply d8 hS a7);rfl;rfl;rfl;clear hS;intro g w' hS|(with_reducible apply b8 hS a7 (i:=0));(iterate 8 rfl);(first|exact (rfl:_=[_,_])|exact (rfl:_=[_,_,_,_]));clear hS;intro w' hS;simp only [List.set] at hS|(with_reducible apply b9);rfl;all_goals (intro hb hp;try (exfalso;omega))|(with_reducible apply d7 hS);rfl;rfl;rfl;refine ⟨_,hn1 _ (hK0.now hS),?_⟩;clear hS;intro w' hS|(with_reducible apply b1C);rfl;rfl;exact heq;rfl)
    refine a0O (i + 1) (by exact Fr.sub_of rfl) (by omega) (fun j y hj hy=>?_) (by omega) hS.drop.drop;by_cases e:j=i
    ·subst e;rw [hf] at hy
     cases hy
     exact by rw [<- hNN];exact xj2 h0
    ·exact hall j y (by omega) hy
   ·have heq:=b22 (⟨dt,rf⟩:Sw) sw0;rw [xj0 h0] at heq
    repeat' (first|(with_reducible apply a8 a7);rfl;rfl;rfl|(with_reducible apply a9);rfl;(first|apply Ld.sc a7;rfl;exact hS.blkC 1 rfl rfl|apply Ld.sl a7;rfl;exact hS.blkC 0 rfl rfl|apply Ld.st a7;rfl;(first|exact hS.blkR 1 rfl|exact hS.roR (by assumption) (by assumption));rfl);rfl|(with_reducible apply l7 a7);rfl;rfl;rfl;rfl;omega;rfl|(with_reducible apply n7 a7);rfl;rfl;exact (rfl:_=some [_,_]);rfl|refine yDn (by with_reducible constructor) ?_|(with_reducible apply k8);(iterate 4 rfl);assumption|(with_reducible apply x8);(iterate 4 rfl);rfl;rfl|(with_reducible apply a1r);(iterate 5 rfl)|(with_reducible apply j3);rfl;(first|rfl|assumption);rfl;rfl|(with_reducible apply f5);rfl;assumption;rfl;rfl|(with_reducible apply f6);rfl;rfl|(with_reducible apply d8 hS a7);rfl;rfl;rfl;clear hS;intro g w' hS|(with_reducible apply b8 hS a7 (i:=0));(iterate 8 rfl);(first|exact (rfl:_=[_,_])|exact (rfl:_=[_,_,_,_]));clear hS;intro w' hS;simp only [List.set] at hS|(with_reducible apply b9);rfl;all_goals (intro hb hp;try (exfalso;omega))|(with_reducible apply d7 hS);rfl;rfl;rfl;refine ⟨_,hn1 _ (hK0.now hS),?_⟩;clear hS;intro w' hS|(with_reducible apply b1C);rfl;rfl;exact heq;rfl)
    (refine k7 rfl ?_)
    refine ⟨?_,hS.sub (xj1 _)⟩;rw [hfe,a28 hf (by rw [<- hNN];exact xj0 h0)];rfl
  |cons n0 r=>
   rw [xb1] at hc;have hz:decide (c=0)=false:=xj0 (by omega);have hgt:decide (0 < c)=true:=xj2 (by omega);obtain ⟨hq1,hq2⟩:=hN2 n0 r rfl
   cases hal:a0P (n0::r) with
   |false=>
    rw [hal] at hq1;subst hq1
    repeat' (first|(with_reducible apply a8 a7);rfl;rfl;rfl|(with_reducible apply a9);rfl;(first|apply Ld.sc a7;rfl;exact hS.blkC 1 rfl rfl|apply Ld.sl a7;rfl;exact hS.blkC 0 rfl rfl|apply Ld.st a7;rfl;(first|exact hS.blkR 1 rfl|exact hS.roR (by assumption) (by assumption));rfl);rfl|(with_reducible apply l7 a7);rfl;rfl;rfl;rfl;omega;rfl|refine yDn (by with_reducible constructor) ?_|((with_reducible apply k8);(iterate 4 rfl);first|rfl|assumption)|(with_reducible apply x8);(iterate 4 rfl);(first|rfl|assumption);rfl|(with_reducible apply j3);rfl;(first|rfl|assumption);rfl;rfl|(with_reducible apply f5);rfl;(first|rfl|assumption);rfl;rfl|(with_reducible apply f6);rfl;rfl|(with_reducible apply d8 hS a7);rfl;rfl;rfl;clear hS;intro g w' hS|(with_reducible apply b8 hS a7 (i:=0));(iterate 8 rfl);(first|exact (rfl:_=[_,_])|exact (rfl:_=[_,_,_,_]));clear hS;intro w' hS;simp only [List.set] at hS|(with_reducible apply b9);rfl;all_goals (intro hb hp;try (exfalso;omega))|(with_reducible apply d7 hS);rfl;rfl;rfl;refine ⟨_,hn1 _ (hK0.now hS),?_⟩;clear hS;intro w' hS)
    (refine k7 rfl ?_)
    refine ⟨?_,hS.sub (xj1 _)⟩;rw [hfe,a28 hf (by rw [<- hNN,xq9];intro h;rw [a3c.2 (a2N.1 h).same] at hal;cases hal)];rfl
   |true=>
    rw [hal] at hq1;subst hq1;by_cases hl:(dt.length:Int)=16;rotate_left
    ·have hdl:(!decide ((dt.length:Int)=16))=true:=by rw [xj0 hl];rfl
     repeat' (first|(with_reducible apply a8 a7);rfl;rfl;rfl|(with_reducible apply a9);rfl;(first|apply Ld.sc a7;rfl;exact hS.blkC 1 rfl rfl|apply Ld.sl a7;rfl;exact hS.blkC 0 rfl rfl|apply Ld.st a7;rfl;(first|exact hS.blkR 1 rfl|exact hS.roR (by assumption) (by assumption));rfl);rfl|(with_reducible apply l7 a7);rfl;rfl;rfl;rfl;omega;rfl|refine yDn (by with_reducible constructor) ?_|((with_reducible apply k8);(iterate 4 rfl);first|rfl|assumption)|(with_reducible apply x8);(iterate 4 rfl);assumption;rfl|(with_reducible apply j3);rfl;assumption;rfl;rfl|(with_reducible apply f5);rfl;(first|rfl|assumption);rfl;rfl|(with_reducible apply f6);rfl;assumption|(with_reducible apply d8 hS a7);rfl;rfl;rfl;clear hS;intro g w' hS|(with_reducible apply b8 hS a7 (i:=0));(iterate 8 rfl);(first|exact (rfl:_=[_,_])|exact (rfl:_=[_,_,_,_]));clear hS;intro w' hS;simp only [List.set] at hS|(with_reducible apply b9);rfl;all_goals (intro hb hp;try (exfalso;omega))|(with_reducible apply d7 hS);rfl;rfl;rfl;refine ⟨_,hn1 _ (hK0.now hS),?_⟩;clear hS;intro w' hS)
     (refine k7 rfl ?_)
     refine ⟨?_,hS.sub (xj1 _)⟩;rw [hfe,a28 hf (by rw [<- hNN,xq9];exact fun h=>hl (by rw [(a2N.1 h).len (by simp)];rfl))];rfl
    have hdl:(!decide ((dt.length:Int)=16))=false:=by rw [xj2 hl];rfl
    have hbase:a16 ⟨dt,rf⟩ (n0::r)=(decide (rf=((n0::r).length:Int)/\dt.length=16) && a0P (n0::r)):=rfl;rw [hal,xj2 (⟨hr.trans hc,by omega⟩:rf=((n0::r).length:Int)/\dt.length=16),xq0] at hbase
    repeat' (first|(with_reducible apply a8 a7);rfl;rfl;rfl|(with_reducible apply a9);rfl;(first|apply Ld.sc a7;rfl;exact hS.blkC 1 rfl rfl|apply Ld.sl a7;rfl;exact hS.blkC 0 rfl rfl|apply Ld.st a7;rfl;(first|exact hS.blkR 1 rfl|exact hS.roR (by assumption) (by assumption));rfl);rfl|(with_reducible apply l7 a7);rfl;rfl;rfl;rfl;omega;rfl|(with_reducible apply j4);rfl;rfl;omega;omega;rfl|refine yDn (by with_reducible constructor) ?_|((with_reducible apply k8);(iterate 4 rfl);first|rfl|assumption)|(with_reducible apply x8);(iterate 4 rfl);assumption;rfl|(with_reducible apply j3);rfl;assumption;rfl;rfl|(with_reducible apply f5);rfl;(first|rfl|assumption);rfl;rfl|(with_reducible apply f8);rfl;assumption|(with_reducible apply d8 hS a7);rfl;rfl;rfl;clear hS;intro g w' hS|(with_reducible apply b8 hS a7 (i:=0));(iterate 8 rfl);(first|exact (rfl:_=[_,_])|exact (rfl:_=[_,_,_,_]));clear hS;intro w' hS;simp only [List.set] at hS|(with_reducible apply b9);rfl;all_goals (intro hb hp;try (exfalso;omega))|(with_reducible apply d7 hS);rfl;rfl;rfl;refine ⟨_,hn1 _ (hK0.now hS),?_⟩;clear hS;intro w' hS)
    refine a0O (i + 1) (by exact Fr.sub_of rfl) (by omega) (fun j y hj hy=>?_) (by omega) hS.drop.drop;by_cases e:j=i
    ·subst e;rw [hf] at hy
     cases hy
     exact by rw [<- hNN];exact hbase
    ·exact hall j y (by omega) hy
theorem a64:∀ {l:List Int} {lo hi:Int},Rises l->(∀ p ∈ l,lo<=p/\p < hi)->lo<=hi->(l.length:Int)<=hi - lo
 |[],lo,hi,_,_,h=>by simp;omega
 |p::l,lo,hi,hr,hp,h=>by
  have h1:=hp p xc5;have ih:=a64 (l:=l) (lo:=p + 1) (hi:=hi) (xd7.1 hr).2 (fun q hq=>⟨by have:=(xd7.1 hr).1 q hq;omega,(hp q (xc6 _ hq)).2⟩) (by omega);rw [xb1];omega
theorem a45 {α:Type} (p:α->Bool):∀ (l:List α),l.length=(l.filter p).length + (l.filter fun x=>!p x).length
 |[]=>rfl
 |x::l=>by
  have ih:=a45 p l
  cases hx:p x with
  |true=>
   rw [xk6 hx,xk8 (by simp [hx]),xb1,xb1];omega
  |false=>
   rw [xk8 (by simp [hx]),xk6 (by simp [hx]),xb1,xb1];omega
theorem a49 {α:Type} (p q:α->Bool):∀ (l:List α),(∀ x ∈ l,¬(p x=true/\q x=true))->(l.filter fun x=>p x||q x).length=(l.filter p).length + (l.filter q).length
 |[],_=>rfl
 |x::l,h=>by
  have ih:=a49 p q l (fun y hy=>h y (xc6 _ hy));have hx:=h x xc5
  cases h1:p x with
  |true=>
   have h2:q x=false:=by simpa [h1] using hx
   rw [xk6 (by simp [h1]),xk6 h1,xk8 (by simp [h2]),xb1,xb1];omega
  |false=>
   cases h2:q x with
   |true=>
    rw [xk6 (by simp [h2]),xk8 (by simp [h1]),xk6 h2,xb1,xb1];omega
   |false=>
    rw [xk8 (by simp [h1,h2]),xk8 (by simp [h1]),xk8 (by simp [h2])];omega
theorem a6q:∀ {A:List Ar} {e0:Int},x6 e0 A->∀ {l:List Int},Rises l->(∀ p ∈ l,(q8 A p).isSome=true)->(l.length:Int)<=y9 A
 |[],_,_,l,_,h=>by
  cases l with
  |nil=>simp [y9]
  |cons p l=>have:=h p xc5;simp [q8] at this
 |a::A,e0,hA,l,hr,h=>by
  obtain ⟨h1,h2,h3⟩:=hA;have hok:=h1;unfold Ar.ok at hok;have hlt:∀ b ∈ A,a.fin<=b.pg:=fun b hb=>(a5o h3 b hb).1;rw [a45 (fun p=>decide (p < a.fin)) l];have c1:=a64 (l:=l.filter fun p=>decide (p < a.fin)) (lo:=a.pg) (hi:=a.fin) (hr.sublist (List.filter_sublist)) (fun p hp=>by
   rw [xo7,xb3] at hp;refine ⟨?_,hp.2⟩;have hs:=h p hp.1;unfold q8 at hs;by_cases hb:a0g p a=true
   ·unfold a0g at hb;rw [xb3] at hb;exact hb.1
   ·rw [xq7 hb] at hs;obtain ⟨b,hbb⟩:=xi2.1 hs;have h4:=hlt b (xi1 hbb);have h5:=xi3 hbb;unfold a0g at h5;rw [xb3] at h5;omega) (by unfold Ar.fin;omega)
  have c2:=a6q h3 (l:=l.filter fun p=>!decide (p < a.fin)) (hr.sublist (List.filter_sublist)) (fun p hp=>by
   rw [xo7,xc8,xq2] at hp;have hs:=h p hp.1;unfold q8 at hs |-;rw [xq7] at hs
   ·exact hs
   ·unfold a0g;rw [xb3];omega)
  unfold Ar.fin at c1;show _<=a.n + y9 A;unfold Ar.fin at c2 |-
  push_cast
  omega
theorem b4f {sh:List Sh} {nf ns:Int} {s:Sc} (h:b0X sh nf ns s):(s.entries.length:Int)<=y9 s.areas:=by
 have:=a6q (x7.1 h.ar).2.1 h.rises (fun p hp=>by
  obtain ⟨e,he,rfl⟩:=xm5.1 hp;exact (h.ents e he).1)
 unfold j8 at this
 rwa [xi9] at this
theorem a6s {sh:List Sh} {nf ns:Int}:∀ {L:List Sc},(∀ s ∈ L,b0X sh nf ns s)->((a0G L).length:Int)<=a0n L
 |[],_=>by simp [a0G,a0n]
 |s::L,h=>by
  have h1:=b4f (h s xc5);have h2:=a6s (L:=L) (fun x hx=>h x (xc6 _ hx));have e1:a0G (s::L)=s.entries.map (a0Q s)++a0G L:=by unfold a0G;simp
  have e2:a0n (s::L)=y9 s.areas + a0n L:=by unfold a0n;simp
  rw [e1,e2,xe9,xi9];omega
theorem a9K (X:List Nm):∀ (n:Nat),(∀ i:Nat,i < n->X.filter (fun (m:Nm)=>decide (m.1.kind=2/\m.1.at_=((i:Nat):Int)))≠[])->n<=(X.filter fun (m:Nm)=>decide (m.1.kind=2/\0<=m.1.at_/\m.1.at_ < ((n:Nat):Int))).length
 |0,_=>xg4 _
 |n + 1,h=>by
  have ih:=a9K X n (fun i hi=>h i (by omega));have hn:=xa3.2 (h n (by omega));have e:(X.filter fun (m:Nm)=>decide (m.1.kind=2/\0<=m.1.at_/\m.1.at_ < ((n + 1:Nat):Int)))=X.filter (fun (m:Nm)=>(decide (m.1.kind=2/\0<=m.1.at_/\m.1.at_ < ((n:Nat):Int)))||decide (m.1.kind=2/\m.1.at_=((n:Nat):Int))):=by
   refine congrArg (fun p=>List.filter p X) (funext fun m=>?_);rw [xc9,xo0,xb3,xb3,xb3];omega
  rw [e,a49 _ _ _ (fun x _=>by rw [xb3,xb3];omega)];omega
theorem b0u {α:Type} (p q:α->Bool) (l:List α) (h:∀ x ∈ l,¬(p x=true/\q x=true)):(l.filter p).length + (l.filter q).length<=l.length:=by
 rw [<- a49 p q l h];exact xn3 _ _
theorem a7F {K:Ker} (h:Right K) {f:Nat} (hf:f < K.frames.length) (hr:(m6 K.frames f).refs≠0):∃ t,a2a K.slots=some t:=by
 cases hfs:a2a K.slots with
 |some t=>exact ⟨t,rfl⟩
 |none=>
  exfalso;have hno:=b0E hfs;have hroom:=a6s (L:=K.spaces) (fun s hs=>a1b.1 (h.spaces s hs));have h1:=h.room;have hc:=a9K (a0G K.spaces) K.slots.length (fun i hi=>by
   rw [a1f];intro e;have:=h.sl i _ (xe1 hi);rw [e] at this;exact hno _ (xe2 hi) this.refs)
  have hff:=xe1 hf;have h2:=h.fr f _ hff;rw [p9 hff] at hr;have h3:(j6 K.spaces 1 (f:Nat)).length≠0:=fun e=>hr (by rw [h2.refs,e];rfl);rw [<- a1f] at h3;have h4:=b0u (fun (m:Nm)=>decide (m.1.kind=2/\0<=m.1.at_/\m.1.at_ < ((K.slots.length:Nat):Int))) (fun (n:Nm)=>decide (n.1.kind=1/\n.1.at_=((f:Nat):Int))) (a0G K.spaces) (fun x _=>by rw [xb3,xb3];omega);omega
def a7C (l:List Fm):Nat:=l.countP fun f=>f.seen
def a7E (n h:Nat) (held:List Nat):Nat:=if h ∈ held then (if x5 n h ∈ held then 2 else 1) else 0
def a0M (fr:List Fm) (h:Nat) (held:List Nat):Nat:=3 * a7C fr + a7E fr.length h held
theorem a6L {n h:Nat} (hn:h < n):x5 n h < n:=by unfold x5;split <;> omega
theorem a2r (n h:Nat) (held:List Nat):a7E n h held<=2:=by unfold a7E;split <;> (try split) <;> omega
theorem a4v {n h:Nat} {held:List Nat} (h3:3<=n) (hn:h < n) (hl:held.length<=2) (hh:h ∈ held):a7E n (x5 n h) held < a7E n h held:=by
 unfold a7E;rw [xf0 hh];by_cases h1:x5 n h ∈ held
 ·rw [xf0 h1,xf0 h1,xf1]
  ·omega
  ·intro h2;have hnd:[h,x5 n h,x5 n (x5 n h)].Nodup:=by
    have e1:h≠x5 n h:=by unfold x5;split <;> omega
    have e2:h≠x5 n (x5 n h):=by unfold x5;split <;> split <;> omega
    have e3:x5 n h≠x5 n (x5 n h):=by unfold x5;split <;> split <;> omega
    simp [e1,e2,e3]
   have:=a5a hnd (m:=held) (fun x hx=>by
    rcases xc4.1 hx with rfl|hx
    ·exact hh
    rcases xc4.1 hx with rfl|hx
    ·exact h1
    rcases xc4.1 hx with rfl|hx
    ·exact h2
    ·cases hx)
   simp at this;omega
 ·rw [xf1 h1,xf1 h1];omega
theorem a3S:∀ {l:List Fm} {i:Nat} {f x:Fm},l[i]?=some f->f.seen=true->x.seen=false->a7C (l.set i x) + 1=a7C l
 |[],_,_,_,h,_,_=>by simp at h
 |a::l,0,f,x,h,hf,hx=>by
  simp at h;subst h;unfold a7C;rw [List.set_cons_zero,List.countP_cons_of_pos hf,List.countP_cons_of_neg (by simp [hx])]
 |a::l,i + 1,f,x,h,hf,hx=>by
  have ih:=a3S (l:=l) (i:=i) (by simpa using h) hf hx;unfold a7C at ih |-;rw [List.set_cons_succ,List.countP_cons,List.countP_cons];omega
def b0h (a b:Fm):Prop:=a.data=b.data/\a.refs=b.refs/\a.dirty=b.dirty
theorem a2S {l:List Fm} {i j:Nat} {x:Fm}:m6 (l.set i x) j=if i=j/\j < l.length then x else m6 l j:=by
 unfold m6;rw [xe0];by_cases e:i=j
 ·subst e;rw [xf0 rfl];by_cases h:i < l.length
  ·rw [xf0 h,xf0 ⟨rfl,h⟩];rfl
  ·rw [xf1 h,xf1 (fun hh=>h hh.2),xh8 (by omega)]
 ·rw [xf1 e,xf1 (fun hh=>e hh.1)]
theorem a6P {l:List Sw} {i j:Nat} {x:Sw}:a0J (l.set i x) j=if i=j/\j < l.length then x else a0J l j:=by
 unfold a0J;rw [xe0];by_cases e:i=j
 ·subst e;rw [xf0 rfl];by_cases h:i < l.length
  ·rw [xf0 h,xf0 ⟨rfl,h⟩];rfl
  ·rw [xf1 h,xf1 (fun hh=>h hh.2),xh8 (by omega)]
 ·rw [xf1 e,xf1 (fun hh=>e hh.1)]
theorem a6p {held:List Nat} (hl:held.length<=2):∀ (k:Nat) {fr:List Fm} {h:Nat},3<=fr.length->h < fr.length->a0M fr h held < k ->
  (a0s k fr h held).2.2 < fr.length/\(a0s k fr h held).2.2 ∉ held/\(a0s k fr h held).2.1 < fr.length/\(a0s k fr h held).1.length=fr.length/\(∀ i,b0h (m6 (a0s k fr h held).1 i) (m6 fr i))/\∀ i ∈ held,m6 (a0s k fr h held).1 i=m6 fr i
 |0,_,_,_,_,hm=>absurd hm (Nat.not_lt_zero _)
 |k + 1,fr,h,h3,hn,hm=>by
  unfold a0s;by_cases hh:h ∈ held
  ·rw [xf0 hh];have hd:=a4v h3 hn hl hh;exact a6p hl k h3 (a6L hn) (by unfold a0M at hm |-;omega)
  ·rw [xf1 hh];have hget:=xe1 hn
   cases hs:(m6 fr h).seen with
   |false=>
    rw [xf1 (by simp)];exact ⟨hn,hh,a6L hn,rfl,fun i=>⟨rfl,rfl,rfl⟩,fun i _=>rfl⟩
   |true=>
    rw [xf0 rfl];have hse:=a3S (x:=⟨(m6 fr h).data,(m6 fr h).refs,(m6 fr h).dirty,false⟩) hget (by rw [<- p9 hget];exact hs) rfl;have hd2:=a2r fr.length (x5 fr.length h) held;have hlen:(fr.set h ⟨(m6 fr h).data,(m6 fr h).refs,(m6 fr h).dirty,false⟩).length=fr.length:=by simp
    have ih:=a6p hl k (fr:=fr.set h ⟨(m6 fr h).data,(m6 fr h).refs,(m6 fr h).dirty,false⟩) (h:=x5 fr.length h) (by rw [hlen];exact h3) (by rw [hlen];exact a6L hn) (by unfold a0M at hm |-;rw [hlen];omega);rw [hlen] at ih;obtain ⟨i1,i2,i3,i4,i5,i6⟩:=ih;refine ⟨i1,i2,i3,i4,fun i=>?_,fun i hi=>?_⟩
    ·have h5:=i5 i;rw [a2S] at h5;by_cases e:h=i/\i < fr.length
     ·rw [xf0 e] at h5;obtain ⟨rfl,-⟩:=e;exact h5
     ·rw [xf1 e] at h5;exact h5
    ·rw [i6 i hi,a2S,xf1];rintro ⟨rfl,-⟩;exact hh hi
theorem a5s {fr:List Fm} (h64:fr.length<=64) (h:Nat) (held:List Nat):a0M fr h held < 5000:=by
 unfold a0M a7C;have h1:=List.countP_le_length (p:=fun (f:Fm)=>f.seen) (l:=fr);have h2:=a2r fr.length h held;omega
theorem FmOk.alike {sh:List Sh} {f g:Fm} {N:List Nm} (h:FmOk sh f N) (ha:b0h g f) (hr:f.refs≠0):FmOk sh g N:=by
 obtain ⟨a1,a2,a3⟩:=ha;refine ⟨by rw [a2];exact h.refs,fun e=>absurd (by rw [h.refs,e];rfl) hr,by rw [a1];exact h.len,h.same,fun n hn=>by rw [a1,a3];exact h.data n hn⟩
theorem a8C {K:Ker} (h:Right K) {held:List Nat} (hl:held.length<=2) (hfree:a2O K.frames=none) :
  Right ⟨K.sheets,(a0o K held).1,K.slots,K.spaces,((a0o K held).2.1:Nat)⟩/\(a0o K held).2.2 < K.frames.length/\(a0o K held).2.2 ∉ held/\(∀ i,b0h (m6 (a0o K held).1 i) (m6 K.frames i))/\(∀ i ∈ held,m6 (a0o K held).1 i=m6 K.frames i)/\(a0o K held).1.length=K.frames.length:=by
 have hh:=h.hand;have hc:=h.cnt;obtain ⟨c1,c2,c3,c4,c5,c6⟩:=a6p hl 5000 (fr:=K.frames) (h:=K.hand.toNat) hc.1 (by omega) (a5s hc.2.1 _ _);refine ⟨⟨by dsimp only [a0o];rw [c4];exact hc,h.rise,?_,?_,h.room,fun i g hg=>?_,h.sl⟩,c1,c2,c5,c6,c4⟩
 ·show 0<=(((a0s 5000 K.frames K.hand.toNat held).2.1:Nat):Int)/\(((a0s 5000 K.frames K.hand.toNat held).2.1:Nat):Int) < ((a0s 5000 K.frames K.hand.toNat held).1.length:Int);rw [c4];omega
 ·intro s hs;show t9 K.sheets ((a0s 5000 K.frames K.hand.toNat held).1.length:Int) K.slots.length s=true;rw [c4];exact h.spaces s hs
 ·replace hg:(a0s 5000 K.frames K.hand.toNat held).1[i]?=some g:=hg;have hil:i < K.frames.length:=by have:=d6 hg;omega
  have hig:=xe1 hil;have:=c5 i;rw [p9 hg,p9 hig] at this;exact (h.fr i _ hig).alike this (a4t hfree _ (xe2 hil))
theorem a0a {l:List En} {p:Int} {e:En} (h:l9 l p=some e):e ∈ l/\e.page=p:=⟨xi1 h,by have:=xi3 h;simpa using this⟩
theorem a3u {l:List En} (hr:Rises (j8 l)) {e:En} (h:e ∈ l):l9 l e.page=some e:=by
 induction l with
 |nil=>cases h
 |cons a l ih=>
  unfold l9;have hp:=xd7.1 hr;rcases xc4.1 h with rfl|h
  ·rw [List.find?_cons_of_pos (by simp)]
  ·have:a.page < e.page:=hp.1 e.page (xm5.2 ⟨e,h,rfl⟩);rw [xq7 (by simp;omega)];exact ih hp.2 h
theorem a1x {l:List En} {p:Int}:l9 l p=none ↔ p ∉ j8 l:=by
 unfold l9 j8;rw [xn4,xm5];constructor
 ·rintro h ⟨e,he,rfl⟩;exact h e he (by simp)
 ·intro h e he hp;exact h ⟨e,he,by simpa using hp⟩
theorem a5z {f:Int} {t:Option Int} {e x:En} (h:o8 f t e=some x):x.page=e.page:=by
 unfold o8 at h
 split at h
 ·cases t with
  |none=>cases h
  |some s=>cases h;rfl
 ·cases h;rfl
theorem a80 {f:Int} {t:Option Int} {l:List En} (hr:Rises (j8 l)) (p:Int):l9 (l.filterMap (o8 f t)) p=(l9 l p).bind (o8 f t):=by
 have hr2:=hr.sublist (a2H f t l)
 cases h:l9 l p with
 |none=>
  rw [a1x] at h;exact a1x.2 fun hp=>h ((a2H f t l).subset hp)
 |some e=>
  obtain ⟨he,rfl⟩:=a0a h;show _=o8 f t e
  cases hx:o8 f t e with
  |some x=>
   have:=a3u hr2 (List.mem_filterMap.2 ⟨e,he,hx⟩)
   rwa [a5z hx] at this
  |none=>
   rw [a1x];intro hp;obtain ⟨y,hy,hyp⟩:=xm5.1 hp;obtain ⟨z,hz,hzy⟩:=List.mem_filterMap.1 hy;have h1:=a5z hzy;have h2:=a3u hr hz;rw [<- h1,hyp,h] at h2
   cases h2
   rw [hx] at hzy
   cases hzy
theorem a1o {K:Ker} {sp:Nat} {s:Sc} (h:K.spaces[sp]?=some s):a0E K sp=s:=by unfold a0E;rw [h];rfl
theorem a5q {K:Ker} {sp:Nat} (h:K.spaces[sp]?=none):a0E K sp=sc0:=by unfold a0E;rw [h];rfl
theorem a3d {K:Ker} {sp:Nat} {s:Sc} {e:En} (h:K.spaces[sp]?=some s) (he:e ∈ s.entries):a0Q s e ∈ j6 K.spaces e.kind e.at_:=by
 rw [a0K,xq6];refine ⟨s,xd0 h,?_⟩;unfold nm1;exact xm5.2 ⟨e,xo7.2 ⟨he,by simp⟩,rfl⟩
theorem b4I {K:Ker} {sp:Nat} {s:Sc} (h:K.spaces[sp]?=some s) (e:En):(a0Q s e).2.z=zAt K sp e.page:=by
 unfold zAt n8 a0Q;rw [a1o h]
theorem Right.ent {K:Ker} (h:Right K) {sp:Nat} {s:Sc} {e:En} (hs:K.spaces[sp]?=some s) (he:e ∈ s.entries) :
  (q8 s.areas e.page).isSome=true/\((e.kind=1/\(∃ f:Nat,e.at_=(f:Nat)/\f < K.frames.length))\/(e.kind=2/\∃ f:Nat,e.at_=(f:Nat)/\f < K.slots.length)):=by
 have h1:=(a1b.1 (h.spaces s (xd0 hs))).ents e he;refine ⟨h1.1,?_⟩;rcases h1.2 with ⟨a,b,c⟩|⟨a,b,c⟩
 ·exact xd6 ⟨a,e.at_.toNat,by omega,by omega⟩
 ·exact xd3 ⟨a,e.at_.toNat,by omega,by omega⟩
structure SameP (K K':Ker):Prop where
 sheets:K'.sheets=K.sheets
 nfr:K'.frames.length=K.frames.length
 nsl:K'.slots.length=K.slots.length
 nsp:K'.spaces.length=K.spaces.length
 ar:∀ sp,n8 K' sp=n8 K sp
 live:∀ sp,(a0E K' sp).live=(a0E K sp).live
 peek:∀ sp p,a2o K' sp p=a2o K sp p
theorem SameP.refl (K:Ker):SameP K K:=⟨rfl,rfl,rfl,rfl,fun _=>rfl,fun _=>rfl,fun _ _=>rfl⟩
theorem SameP.trans {K K' K2:Ker} (h:SameP K K') (h2:SameP K' K2):SameP K K2:=⟨h2.sheets.trans h.sheets,h2.nfr.trans h.nfr,h2.nsl.trans h.nsl,h2.nsp.trans h.nsp,fun s=>(h2.ar s).trans (h.ar s),fun s=>(h2.live s).trans (h.live s),fun s p=>(h2.peek s p).trans (h.peek s p)⟩
theorem a5G {K K':Ker} {sp:Nat} (hs:K'.sheets=K.sheets) (ha:n8 K' sp=n8 K sp) (p:Int):a1v K' sp p=a1v K sp p:=by
 unfold a1v zAt;rw [hs,ha]
theorem a4S {K K':Ker} {g:Sc->Sc} (h:K'.spaces=K.spaces.map g) (sp:Nat):(K.spaces[sp]?=none/\a0E K' sp=sc0/\a0E K sp=sc0)\/∃ s,K.spaces[sp]?=some s/\a0E K sp=s/\a0E K' sp=g s:=by
 unfold a0E;rw [h,xh6]
 cases hk:K.spaces[sp]? with
 |none=>exact xd6 ⟨rfl,rfl,rfl⟩
 |some s=>exact xd3 ⟨s,rfl,rfl,rfl⟩
theorem a9w {K:Ker} (h:Right K) {f:Nat} (hf:f < K.frames.length) (hfree:(m6 K.frames f).dirty=true->∃ t,a2a K.slots=some t) :
  SameP K (t4 K f)/\m6 (t4 K f).frames f=fm0/\j6 (t4 K f).spaces 1 (f:Nat)=[]/\(∀ i,i≠f->m6 (t4 K f).frames i=m6 K.frames i)/\(∀ i,(a0J K.slots i).refs≠0->a0J (t4 K f).slots i=a0J K.slots i)/\(∀ sp p,l9 (j9 (t4 K f) sp) p=(l9 (j9 K sp) p).bind (o8 (f:Nat) ((a0w K f).map fun (t:Nat)=>(t:Int)))):=by
 have hff:=xe1 hf;have hfo:=h.fr f _ hff;have hent:∀ sp p,l9 (j9 (t4 K f) sp) p=(l9 (j9 K sp) p).bind (o8 (f:Nat) ((a0w K f).map fun (t:Nat)=>(t:Int))):=fun sp p=>by
  unfold j9;rcases a4S (K':=t4 K f) (K:=K) (g:=z8 (f:Nat) ((a0w K f).map fun (t:Nat)=>(t:Int))) rfl sp with ⟨-,h1,h2⟩|⟨s,hs,h1,h2⟩
  ·rw [h1,h2];rfl
  ·rw [h1,h2];exact a80 (a1b.1 (h.spaces s (xd0 hs))).rises p
 have harea:∀ sp,n8 (t4 K f) sp=n8 K sp:=fun sp=>by
  unfold n8;rcases a4S (K':=t4 K f) (K:=K) (g:=z8 (f:Nat) ((a0w K f).map fun (t:Nat)=>(t:Int))) rfl sp with ⟨-,h1,h2⟩|⟨s,hs,h1,h2⟩ <;> rw [h1,h2] <;> rfl
 have hlive:∀ sp,(a0E (t4 K f) sp).live=(a0E K sp).live:=fun sp=>by
  rcases a4S (K':=t4 K f) (K:=K) (g:=z8 (f:Nat) ((a0w K f).map fun (t:Nat)=>(t:Int))) rfl sp with ⟨-,h1,h2⟩|⟨s,hs,h1,h2⟩ <;> rw [h1,h2] <;> rfl
 have hfr:∀ i,m6 (t4 K f).frames i=if f=i then fm0 else m6 K.frames i:=fun i=>by
  show m6 (K.frames.set f fm0) i=_;rw [a2S];by_cases e:f=i
  ·subst e;rw [xf0 ⟨rfl,hf⟩,xf0 rfl]
  ·rw [xf1 (fun hh=>e hh.1),xf1 e]
 have hT:∀ t,a0w K f=some t->(m6 K.frames f).dirty=true/\(a0J K.slots t).refs=0/\t < K.slots.length/\j6 K.spaces 2 (t:Nat)=[]/\(t4 K f).slots=K.slots.set t ⟨(m6 K.frames f).data,(m6 K.frames f).refs⟩:=fun t ht=>by
  have ht0:=ht;unfold a0w at ht
  cases hd:(m6 K.frames f).dirty with
  |false=>rw [hd] at ht;cases ht
  |true=>
   obtain ⟨u,hu⟩:=hfree hd;rw [hd,hu] at ht;obtain rfl:u=t:=by simpa using ht
   obtain ⟨s0,hs0,hs1⟩:=a2v hu;refine ⟨rfl,by rw [a1J hs0];exact hs1,d6 hs0,((h.sl u s0 hs0).free hs1).1,?_⟩;unfold t4;rw [ht0]
 have hT0:a0w K f=none->(m6 K.frames f).dirty=false/\(t4 K f).slots=K.slots:=fun ht=>by
  have ht0:=ht;unfold a0w at ht
  cases hd:(m6 K.frames f).dirty with
  |false=>exact ⟨rfl,by unfold t4;rw [ht0]⟩
  |true=>rw [hd] at ht;cases ht
 have hsw:∀ i,(a0J K.slots i).refs≠0->a0J (t4 K f).slots i=a0J K.slots i:=fun i hi=>by
  cases ht:a0w K f with
  |none=>rw [(hT0 ht).2]
  |some t=>
   obtain ⟨-,h2,-,-,h5⟩:=hT t ht;rw [h5,a6P,xf1];rintro ⟨rfl,-⟩;exact hi h2
 refine ⟨⟨rfl,by show (K.frames.set f fm0).length=_;simp,?_,by show (K.spaces.map _).length=_;simp,harea,hlive,fun sp p=>?_⟩,by rw [hfr,xf0 rfl],a5v _,fun i hi=>by rw [hfr,xf1 (Ne.symm hi)],hsw,hent⟩
 ·cases ht:a0w K f with
  |none=>rw [(hT0 ht).2]
  |some t=>rw [(hT t ht).2.2.2.2];simp
 ·unfold a2o;rw [hent];have hfill:a1v (t4 K f) sp p=a1v K sp p:=a5G (K:=K) (K':=t4 K f) rfl (harea sp) p
  cases he:l9 (j9 K sp) p with
  |none=>exact hfill
  |some e=>
   obtain ⟨hem,hep⟩:=a0a he;rcases a4S (K':=K) (K:=K) (g:=id) (List.map_id _).symm sp with ⟨h0,-,h2⟩|⟨s,hs,h1,-⟩
   ·unfold j9 at hem;rw [h2] at hem
    cases hem
   ·have hes:e ∈ s.entries:=by unfold j9 at hem;rwa [h1] at hem
    have hnm:=a3d hs hes;show (match o8 (f:Nat) ((a0w K f).map fun (t:Nat)=>(t:Int)) e with
     |some e=>a0y (t4 K f) e
     |none=>a1v (t4 K f) sp p)=a0y K e
    unfold o8;by_cases hk:e.kind=1/\e.at_=(f:Nat)
    ·rw [xf0 hk];rw [hk.1,hk.2] at hnm;have hd:=hfo.data _ hnm;rw [b4I hs] at hd;have hdat:a0y K e=(m6 K.frames f).data:=by unfold a0y;rw [xf0 hk.1,hk.2];rfl
     rw [hdat]
     cases ht:a0w K f with
     |none=>
      rw [<- p9 hff] at hd;rcases hd with hd|hd
      ·rw [(hT0 ht).1] at hd;cases hd
      ·show a1v (t4 K f) sp p=_;rw [hfill];unfold a1v;have:(a0Q s e).1.page=p:=hep;rw [hep] at hd;rw [show (a0Q s e).1.page=p from hep] at hd;rw [<- hd];rfl
     |some t=>
      obtain ⟨-,-,h3,-,h5⟩:=hT t ht;show a0y (t4 K f) ⟨e.page,2,(t:Nat)⟩=_;unfold a0y;rw [xf1 (by show ¬((2:Int)=1);omega),h5,show ((t:Nat):Int).toNat=t from rfl,a6P,xf0 ⟨rfl,h3⟩]
    ·rw [xf1 hk];show a0y (t4 K f) e=a0y K e;unfold a0y;by_cases hk1:e.kind=1
     ·rw [xf0 hk1,xf0 hk1,hfr,xf1];rintro rfl;rcases (h.ent hs hes).2 with ⟨-,g,hg,-⟩|⟨h2,-⟩
      ·exact hk ⟨hk1,by omega⟩
      ·omega
     ·rw [xf1 hk1,xf1 hk1];rcases (h.ent hs hes).2 with ⟨h1,-⟩|⟨h2,g,hg,hgl⟩
      ·exact absurd h1 hk1
      ·rw [hsw];rw [hg];have hgo:=h.sl g _ (xe1 hgl);rw [h2,hg] at hnm;rw [show ((g:Nat):Int).toNat=g from rfl,a1J (xe1 hgl),hgo.refs];intro e0;have:j6 K.spaces 2 (g:Nat)=[]:=xf3 (by omega);rw [this] at hnm
       cases hnm
structure b5W (K:Ker) (held:List Nat) (r:Ker×Nat):Prop where
 right:Right r.1
 same:SameP K r.1
 lt:r.2 < K.frames.length
 zero:m6 r.1.frames r.2=fm0
 nobody:j6 r.1.spaces 1 (r.2:Nat)=[]
 kept:∀ i ∈ held,(m6 K.frames i).refs≠0->r.2≠i/\m6 r.1.frames i=m6 K.frames i
 slots:∀ i,(a0J K.slots i).refs≠0->a0J r.1.slots i=a0J K.slots i
 some_:∀ sp p e,l9 (j9 K sp) p=some e->(e.kind≠1\/∃ i ∈ held,e.at_=((i:Nat):Int)/\(m6 K.frames i).refs≠0)->l9 (j9 r.1 sp) p=some e
 none_:∀ sp p,l9 (j9 K sp) p=none->l9 (j9 r.1 sp) p=none
theorem a3Y {K:Ker} (h:Right K) {held:List Nat} (hl:held.length<=2):b5W K held (a0d K held):=by
 unfold a0d
 cases hf:a2O K.frames with
 |some i=>
  obtain ⟨f,hfi,h0⟩:=b0P hf;have hz:=(h.fr i f hfi).free h0;refine ⟨h,SameP.refl K,d6 hfi,by show m6 K.frames i=_;rw [p9 hfi];exact hz.2,hz.1,fun j _ hj=>⟨?_,rfl⟩,fun _ _=>rfl,fun _ _ _ h _=>h,fun _ _ h=>h⟩;rintro rfl;rw [p9 hfi] at hj;exact hj h0
 |none=>
  obtain ⟨c1,c2,c3,c4,c5,c6⟩:=a8C h hl hf;have hnz:∀ i,i < K.frames.length->(m6 K.frames i).refs≠0:=fun i hi=>by
   rw [p9 (xe1 hi)];exact a4t hf _ (xe2 hi)
  have hfl:(a0o K held).2.2 < (⟨K.sheets,(a0o K held).1,K.slots,K.spaces,((a0o K held).2.1:Nat)⟩:Ker).frames.length:=by show _ < (a0o K held).1.length;rw [c6];exact c2
  have hfree:=a7F c1 hfl (by show (m6 (a0o K held).1 _).refs≠0;rw [(c4 _).2.1];exact hnz _ c2);have hr:=a8m c1 hfl (fun _=>hfree);obtain ⟨s1,s2,s3,s4,s5,s6⟩:=a9w c1 hfl (fun _=>hfree);have hs0:SameP K ⟨K.sheets,(a0o K held).1,K.slots,K.spaces,((a0o K held).2.1:Nat)⟩:=by
   refine ⟨rfl,c6,rfl,rfl,fun _=>rfl,fun _=>rfl,fun sp p=>?_⟩;unfold a2o;show (match l9 (j9 K sp) p with
    |some e=>a0y ⟨K.sheets,(a0o K held).1,K.slots,K.spaces,((a0o K held).2.1:Nat)⟩ e
    |none=>a1v K sp p)=_
   cases l9 (j9 K sp) p with
   |none=>rfl
   |some e=>
    show a0y _ e=a0y K e;unfold a0y;rw [(c4 _).1]
  refine ⟨hr,hs0.trans s1,c2,s2,s3,fun i hi h0=>⟨?_,?_⟩,fun i hi=>s5 i hi,fun sp p e he hk=>?_,fun sp p he=>?_⟩
  ·rintro rfl;exact c3 hi
  ·show m6 (t4 _ _).frames i=_;rw [s4 i (fun e=>c3 (by rw [<- e];exact hi))];exact c5 i hi
  ·show l9 (j9 (t4 _ _) sp) p=_;rw [s6];show ((l9 (j9 K sp) p).bind _)=_;rw [he];show o8 _ _ e=_;unfold o8;rw [xf1];rintro ⟨k1,k2⟩;rcases hk with hk|⟨i,hi,hk,-⟩
   ·exact hk k1
   ·have:(a0o K held).2.2=i:=by omega
    exact c3 (by rw [this];exact hi)
  ·show l9 (j9 (t4 _ _) sp) p=_;rw [s6];show ((l9 (j9 K sp) p).bind _)=_;rw [he];rfl
theorem a3Z {l:List En} (hr:Rises (j8 l)) {q:Int} {x:En}:l9 l q=some x ↔ x ∈ l/\x.page=q:=by
 constructor
 ·exact a0a
 ·rintro ⟨h,rfl⟩;exact a3u hr h
theorem b35 (a:Int) (l:List Int) (t:Int):lbd (a::l) t=if a < t then lbd l t + 1 else 0:=by
 unfold lbd;rw [List.takeWhile_cons];by_cases h:a < t
 ·rw [xf0 (by simpa using h),xf0 h,xb1]
 ·rw [xf1 (by simpa using h),xf1 h];rfl
theorem a7Z:∀ {l:List Int} (_:Rises l) (t:Int),(∀ p ∈ l.take (lbd l t),p < t)/\(∀ p ∈ l.drop (lbd l t),t<=p)
 |[],_,t=>by simp
 |a::l,h,t=>by
  have hp:=xd7.1 h;rw [b35];by_cases c:a < t
  ·rw [xf0 c];obtain ⟨i1,i2⟩:=a7Z hp.2 t;refine ⟨fun p hp'=>?_,by simpa using i2⟩;rw [xl2] at hp';rcases xc4.1 hp' with rfl|hp'
   ·exact c
   ·exact i1 p hp'
  ·rw [xf1 c];refine ⟨by simp,fun p hp'=>?_⟩;rw [xl7] at hp';rcases xc4.1 hp' with rfl|hp'
   ·omega
   ·have:=hp.1 p hp';omega
theorem a7S (l:List En) (e:En):(a7u l e).Perm (e::l):=by
 unfold a7u;refine List.perm_middle.trans ?_;rw [xj4]
theorem b0Q {l:List En} (h:Rises (j8 l)) {e:En} (hn:e.page ∉ j8 l):Rises (j8 (a7u l e)):=by
 obtain ⟨h1,h2⟩:=a7Z h e.page;have h3:Rises ((j8 l).take (lbd (j8 l) e.page)):=h.sublist (List.take_sublist _ _);have h4:Rises ((j8 l).drop (lbd (j8 l) e.page)):=h.sublist (List.drop_sublist _ _);have e1:j8 (a7u l e)=(j8 l).take (lbd (j8 l) e.page)++e.page::(j8 l).drop (lbd (j8 l) e.page):=by
  unfold a7u j8;rw [xl5,xc0,xa4,List.map_drop]
 rw [e1];refine xe4.2 ⟨h3,xd7.2 ⟨fun p hp=>?_,h4⟩,fun a ha b hb=>?_⟩
 ·have:=h2 p hp;have hne:p≠e.page:=fun e0=>hn (by rw [<- e0];exact xj8 hp);omega
 ·have:=h1 a ha;rcases xc4.1 hb with rfl|hb
  ·exact this
  ·have:=h2 b hb;omega
theorem a7z {l:List En} (h:Rises (j8 l)) (e:En):∃ R,l.Perm ((l9 l e.page).toList++R)/\(putE l e).Perm (e::R)/\Rises (j8 (putE l e))/\(putE l e).length<=l.length + 1:=by
 unfold putE;by_cases hm:e.page ∈ j8 l
 ·rw [xf0 hm];have hi:=(a1l h e.page).2 hm;unfold j8 at hi;rw [xh6] at hi;obtain ⟨x,hx,hxp⟩:=xi5.1 hi;have he:l9 l e.page=some x:=(a3Z h).2 ⟨xd0 hx,hxp⟩;refine ⟨l.eraseIdx (lbd (j8 l) e.page),?_,?_,?_,by simp⟩
  ·rw [he];exact a1X hx
  ·have:=a1X (l:=l.set (lbd (j8 l) e.page) e) (k:=lbd (j8 l) e.page) (b:=e) (by rw [xe0];simp;exact d6 hx)
   rwa [a1z] at this
  ·have:j8 (l.set (lbd (j8 l) e.page) e)=j8 l:=by
    have e1:j8 (l.set (lbd (j8 l) e.page) e)=(j8 l).set (lbd (j8 l) e.page) e.page:=by unfold j8;rw [xl1]
    rw [e1];refine xh1 fun j=>?_;rw [xe0];by_cases hj:lbd (j8 l) e.page=j
    ·rw [xf0 hj,hj.symm];have h9:=(a1l h e.page).2 hm;rw [xf0 (d6 h9),h9]
    ·rw [xf1 hj]
   rw [this];exact h
 ·rw [xf1 hm];refine ⟨l,?_,a7S l e,b0Q h hm,by rw [(a7S l e).length_eq];simp⟩;rw [a1x.2 hm];exact List.Perm.refl _
theorem b2R {l:List En} (h:Rises (j8 l)) (e:En) (q:Int):l9 (putE l e) q=if q=e.page then some e else l9 l q:=by
 obtain ⟨R,h1,h2,h3,-⟩:=a7z h e;by_cases hq:q=e.page
 ·rw [xf0 hq];exact (a3Z h3).2 ⟨h2.mem_iff.2 xc5,hq.symm⟩
 ·rw [xf1 hq]
  cases hx:l9 l q with
  |some x=>
   obtain ⟨hx1,hx2⟩:=a0a hx;refine (a3Z h3).2 ⟨h2.mem_iff.2 (xc6 _ ?_),hx2⟩;rcases xe3.1 (h1.mem_iff.1 hx1) with h4|h4
   ·exfalso;rw [Option.mem_toList] at h4;exact hq (hx2.symm.trans (a0a h4).2)
   ·exact h4
  |none=>
   cases hy:l9 (putE l e) q with
   |none=>rfl
   |some y=>
    exfalso;obtain ⟨hy1,hy2⟩:=a0a hy;rcases xc4.1 (h2.mem_iff.1 hy1) with rfl|h4
    ·exact hq hy2.symm
    ·have:=(a3Z h).2 ⟨h1.mem_iff.2 (xe6 _ h4),hy2⟩;rw [hx] at this
     cases this
def nmL (s:Sc) (k a:Int) (l:List En):List Nm:=(l.filter fun e=>decide (e.kind=k/\e.at_=a)).map (a0Q s)
theorem a87 {s:Sc} {k a:Int} {l m:List En} (h:l.Perm m):(nmL s k a l).Perm (nmL s k a m):=(h.filter _).map _
theorem b1f (s:Sc) (k a:Int) (l m:List En):nmL s k a (l++m)=nmL s k a l++nmL s k a m:=by unfold nmL;rw [xk5,xl5]
theorem a6c {s:Sc} {k a:Int} {e:En} (l:List En) (h:e.kind=k/\e.at_=a):nmL s k a (e::l)=a0Q s e::nmL s k a l:=by unfold nmL;rw [xk6 (by simpa using h)];rfl
theorem a9i {s:Sc} {k a:Int} {e:En} (l:List En) (h:¬(e.kind=k/\e.at_=a)):nmL s k a (e::l)=nmL s k a l:=by unfold nmL;rw [xk8 (by simpa using h)]
theorem a6Z {L:List Sc} {sp:Nat} {s s':Sc} (h:L[sp]?=some s) (k a:Int):(j6 (L.set sp s') k a).Perm (nm1 s' k a++j6 (L.eraseIdx sp) k a)/\(j6 L k a).Perm (nm1 s k a++j6 (L.eraseIdx sp) k a):=by
 constructor
 ·have:=a1X (l:=L.set sp s') (k:=sp) (b:=s') (by rw [xe0];simp;exact d6 h);rw [a1z] at this;exact this.flatMap_right _
 ·exact (a1X h).flatMap_right _
theorem FmOk.dec {sh:List Sh} {f:Fm} {n:Nm} {N:List Nm} (h:FmOk sh f (n::N)):FmOk sh (a3n f) N:=by
 have hr:=h.refs;rw [xb1] at hr;unfold a3n;by_cases h0:f.refs - 1=0
 ·rw [xf0 h0];obtain rfl:N=[]:=xf3 (by omega);exact FmOk.zero sh
 ·rw [xf1 h0];exact ⟨by show f.refs - 1=_;omega,fun e=>absurd (by rw [e] at hr;simp at hr;omega) h0,fun _=>h.len (by simp),fun a ha b hb=>h.same a (xc6 _ ha) b (xc6 _ hb),fun a ha=>h.data a (xc6 _ ha)⟩
theorem SwOk.dec {f:Sw} {n:Nm} {N:List Nm} (h:SwOk f (n::N)):SwOk (a3m f) N:=by
 have hr:=h.refs;rw [xb1] at hr;unfold a3m;by_cases h0:f.refs - 1=0
 ·rw [xf0 h0];obtain rfl:N=[]:=xf3 (by omega);exact SwOk.zero
 ·rw [xf1 h0];exact ⟨by show f.refs - 1=_;omega,fun e=>absurd (by rw [e] at hr;simp at hr;omega) h0,fun _=>h.len (by simp),fun a ha b hb=>h.same a (xc6 _ ha) b (xc6 _ hb)⟩
theorem b4l {sh:List Sh} {f:Fm} {n m:Nm} {N:List Nm} (h:FmOk sh f (n::m::N)):(a3n f).data=f.data:=by
 have hr:=h.refs;rw [xb1,xb1] at hr;unfold a3n;rw [xf1 (by omega)]
theorem b2c {f:Sw} {n m:Nm} {N:List Nm} (h:SwOk f (n::m::N)):(a3m f).data=f.data:=by
 have hr:=h.refs;rw [xb1,xb1] at hr;unfold a3m;rw [xf1 (by omega)]
theorem a5R (K:Ker) (o:Option En):(a1W K o).spaces=K.spaces/\(a1W K o).sheets=K.sheets/\(a1W K o).hand=K.hand/\(a1W K o).frames.length=K.frames.length/\(a1W K o).slots.length=K.slots.length:=by
 cases o with
 |none=>exact ⟨rfl,rfl,rfl,rfl,rfl⟩
 |some e=>
  show (a3q K e).spaces=_/\(a3q K e).sheets=_/\(a3q K e).hand=_/\(a3q K e).frames.length=_/\(a3q K e).slots.length=_;unfold a3q
  split
  ·exact ⟨rfl,rfl,rfl,xa8,rfl⟩
  ·exact ⟨rfl,rfl,rfl,rfl,xa8⟩
structure InOk (K K':Ker) (sp:Nat) (page:Int) (f:Nat) (data:List UInt8) (dirty:Bool):Prop where
 right:Right K'
 sheets:K'.sheets=K.sheets
 nfr:K'.frames.length=K.frames.length
 nsl:K'.slots.length=K.slots.length
 nsp:K'.spaces.length=K.spaces.length
 ar:∀ i,n8 K' i=n8 K i
 live:∀ i,(a0E K' i).live=(a0E K i).live
 peek:∀ i p,¬(i=sp/\p=page)->a2o K' i p=a2o K i p
 here:a2o K' sp page=data
 ent:∀ i p,l9 (j9 K' i) p=if i=sp/\p=page then some ⟨page,1,(f:Nat)⟩ else l9 (j9 K i) p
 fm:m6 K'.frames f=⟨data,1,dirty,false⟩
 other:∀ i,i≠f->(∀ w0,l9 (j9 K sp) page=some w0->¬(w0.kind=1/\w0.at_=((i:Nat):Int)))->m6 K'.frames i=m6 K.frames i
theorem b62 {K:Ker} {sp:Nat} {s:Sc} {page:Int} {f:Nat} {data:List UInt8} {dirty:Bool} (h:Right K) (hs:K.spaces[sp]?=some s) (hlive:s.live=true) (ha:(q8 s.areas page).isSome=true) (hf:f < K.frames.length) (hN:j6 K.spaces 1 (f:Nat)=[]) (hd:data.length=16) (hfill:dirty=true\/some data=a0I K.sheets (zAt K sp page) page):InOk K (inK K sp page f data dirty) sp page f data dirty:=by
 have hsc:=a1b.1 (h.spaces s (xd0 hs));have hse:=a1o hs;have hent:j9 K sp=s.entries:=by unfold j9;rw [hse]
 obtain ⟨e',he'⟩:∃ e':En,e'=⟨page,1,(f:Nat)⟩:=⟨_,rfl⟩;obtain ⟨s',hs'⟩:∃ s':Sc,s'=⟨s.live,s.areas,putE s.entries e'⟩:=⟨_,rfl⟩;obtain ⟨was,hwas⟩:∃ o,o=l9 s.entries page:=⟨_,rfl⟩;obtain ⟨R,r1,r2,r3,r4⟩:=a7z hsc.rises e';have hpe:e'.page=page:=by rw [he']
 rw [hpe,<- hwas] at r1;have hM:∀ k a,(j6 K.spaces k a).Perm (nmL s k a was.toList++(nmL s k a R++j6 (K.spaces.eraseIdx sp) k a)):=fun k a=>by
  refine (a6Z (s':=s') hs k a).2.trans ?_;rw [<- xg0,<- b1f];exact List.Perm.append_right _ (a87 r1)
 have hM':∀ k a,(j6 (K.spaces.set sp s') k a).Perm (nmL s k a [e']++(nmL s k a R++j6 (K.spaces.eraseIdx sp) k a)):=fun k a=>by
  refine (a6Z (s':=s') hs k a).1.trans ?_;rw [<- xg0,<- b1f];refine List.Perm.append_right _ ?_;have:nm1 s' k a=nmL s k a (putE s.entries e'):=by rw [hs'];rfl
  rw [this];exact a87 r2
 obtain ⟨M,hMd⟩:∃ M:Int->Int->List Nm,M=fun k a=>nmL s k a R++j6 (K.spaces.eraseIdx sp) k a:=⟨_,rfl⟩;have hMe:∀ k a,nmL s k a R++j6 (K.spaces.eraseIdx sp) k a=M k a:=fun k a=>by rw [hMd]
 simp only [hMe] at hM hM';have hMf:M 1 (f:Nat)=[]:=by
  have:=(hM 1 (f:Nat)).symm.trans (by rw [hN]);exact (xo3.1 this.eq_nil).2
 have hwf:∀ w0,was=some w0->w0.kind=1->w0.at_≠(f:Nat):=fun w0 hw k1 k2=>by
  have:=(hM 1 (f:Nat)).symm.trans (by rw [hN]);rw [hw,xp7,a6c [] ⟨k1,k2⟩] at this
  cases this.eq_nil
 have hwin:∀ w0,was=some w0->(w0.kind=1/\∃ b:Nat,w0.at_=(b:Nat)/\b < K.frames.length)\/(w0.kind=2/\∃ b:Nat,w0.at_=(b:Nat)/\b < K.slots.length):=fun w0 hw=>by
  rw [hwas] at hw;exact (h.ent hs (a0a hw).1).2
 -- what comes
 have hK':inK K sp page f data dirty=⟨K.sheets,(a1W (a0j K f ⟨data,1,dirty,false⟩) was).frames,(a1W (a0j K f ⟨data,1,dirty,false⟩) was).slots,K.spaces.set sp s',K.hand⟩:=by
  unfold inK a10 a9O;rw [hent,<- hwas,hs',he'];obtain ⟨l1,l2,l3,-⟩:=a5R (a0j K f ⟨data,1,dirty,false⟩) was;have hl:a0E (a1W (a0j K f ⟨data,1,dirty,false⟩) was) sp=s:=by
   unfold a0E;rw [l1];show (K.spaces[sp]?).getD sc0=s;rw [hs];rfl
  rw [hl,l1,l2,l3];rfl
 rw [hK'];have hlens:=a5R (a0j K f ⟨data,1,dirty,false⟩) was;have hlf:(a1W (a0j K f ⟨data,1,dirty,false⟩) was).frames.length=K.frames.length:=by rw [hlens.2.2.2.1];show (K.frames.set f _).length=_;simp
 have hls:(a1W (a0j K f ⟨data,1,dirty,false⟩) was).slots.length=K.slots.length:=by rw [hlens.2.2.2.2];rfl
 have hscs:∀ i,a0E ⟨K.sheets,(a1W (a0j K f ⟨data,1,dirty,false⟩) was).frames,(a1W (a0j K f ⟨data,1,dirty,false⟩) was).slots,K.spaces.set sp s',K.hand⟩ i=if i=sp then s' else a0E K i:=fun i=>by
  unfold a0E;show ((K.spaces.set sp s')[i]?).getD sc0=_;rw [xe0];by_cases e:sp=i
  ·subst e;rw [xf0 rfl,xf0 (d6 hs),xf0 rfl];rfl
  ·rw [xf1 e,xf1 (fun hh=>e hh.symm)]
 have har:∀ i,n8 ⟨K.sheets,(a1W (a0j K f ⟨data,1,dirty,false⟩) was).frames,(a1W (a0j K f ⟨data,1,dirty,false⟩) was).slots,K.spaces.set sp s',K.hand⟩ i=n8 K i:=fun i=>by
  unfold n8;rw [hscs];by_cases e:i=sp
  ·subst e;rw [xf0 rfl,hse,hs']
  ·rw [xf1 e]
 have hlv:∀ i,(a0E ⟨K.sheets,(a1W (a0j K f ⟨data,1,dirty,false⟩) was).frames,(a1W (a0j K f ⟨data,1,dirty,false⟩) was).slots,K.spaces.set sp s',K.hand⟩ i).live=(a0E K i).live:=fun i=>by
  rw [hscs];by_cases e:i=sp
  ·subst e;rw [xf0 rfl,hse,hs']
  ·rw [xf1 e]
 have hen:∀ i p,l9 (j9 ⟨K.sheets,(a1W (a0j K f ⟨data,1,dirty,false⟩) was).frames,(a1W (a0j K f ⟨data,1,dirty,false⟩) was).slots,K.spaces.set sp s',K.hand⟩ i) p=if i=sp/\p=page then some ⟨page,1,(f:Nat)⟩ else l9 (j9 K i) p:=fun i p=>by
  unfold j9;rw [hscs];by_cases e:i=sp
  ·subst e;rw [xf0 rfl,hse,hs'];show l9 (putE s.entries e') p=_;rw [b2R hsc.rises,hpe];by_cases e2:p=page
   ·rw [xf0 e2,xf0 ⟨rfl,e2⟩,he']
   ·rw [xf1 e2,xf1 (fun hh=>e2 hh.2)]
  ·rw [xf1 e,xf1 (fun hh=>e hh.1)]
 -- frames and slots
 have hfr:∀ i,m6 (a1W (a0j K f ⟨data,1,dirty,false⟩) was).frames i=if i=f then ⟨data,1,dirty,false⟩ else if (∃ w0,was=some w0/\w0.kind=1/\w0.at_=(i:Nat)) then a3n (m6 K.frames i) else m6 K.frames i:=fun i=>by
  have a02:∀ j,m6 (K.frames.set f ⟨data,1,dirty,false⟩) j=if j=f then ⟨data,1,dirty,false⟩ else m6 K.frames j:=fun j=>by
   rw [a2S];by_cases e:f=j
   ·subst e;rw [xf0 ⟨rfl,hf⟩,xf0 rfl]
   ·rw [xf1 (fun hh=>e hh.1),xf1 (fun hh=>e hh.symm)]
  cases hw:was with
  |none=>
   show m6 (K.frames.set f _) i=_;rw [a02];by_cases e:i=f
   ·rw [xf0 e,xf0 e]
   ·rw [xf1 e,xf1 e,xf1];rintro ⟨w0,h1,-⟩
    cases h1
  |some w0=>
   have h1:=hwf w0 hw;show m6 (a3q (a0j K f _) w0).frames i=_;unfold a3q;rcases hwin w0 hw with ⟨k,b,hb,hbl⟩|⟨k,b,hb,hbl⟩
   ·rw [xf0 k];show m6 ((K.frames.set f ⟨data,1,dirty,false⟩).set w0.at_.toNat (a3n (m6 (K.frames.set f ⟨data,1,dirty,false⟩) w0.at_.toNat))) i=_;rw [hb,show ((b:Nat):Int).toNat=b from rfl,a2S,a02,a02];have hbf:¬ b=f:=fun e=>h1 k (by rw [hb,e]);rw [xf1 hbf];by_cases e:b=i
    ·subst e;rw [xf0 ⟨rfl,by simpa using hbl⟩,xf1 hbf,xf0 ⟨w0,rfl,k,hb⟩]
    ·rw [xf1 (fun hh=>e hh.1)];by_cases e2:i=f
     ·rw [xf0 e2,xf0 e2]
     ·rw [xf1 e2,xf1 e2,xf1];rintro ⟨w1,h2,-,h3⟩
      cases h2
      rw [hb] at h3;exact e (by omega)
   ·rw [xf1 (by omega)];show m6 (K.frames.set f _) i=_;rw [a02];by_cases e:i=f
    ·rw [xf0 e,xf0 e]
    ·rw [xf1 e,xf1 e,xf1];rintro ⟨w1,h2,h3,-⟩
     cases h2
     omega
 have hsl:∀ i,a0J (a1W (a0j K f ⟨data,1,dirty,false⟩) was).slots i=if (∃ w0,was=some w0/\w0.kind=2/\w0.at_=(i:Nat)) then a3m (a0J K.slots i) else a0J K.slots i:=fun i=>by
  cases hw:was with
  |none=>
   show a0J K.slots i=_;rw [xf1];rintro ⟨w0,h1,-⟩
   cases h1
  |some w0=>
   show a0J (a3q (a0j K f _) w0).slots i=_;unfold a3q;rcases hwin w0 hw with ⟨k,b,hb,hbl⟩|⟨k,b,hb,hbl⟩
   ·rw [xf0 k];show a0J K.slots i=_;rw [xf1];rintro ⟨w1,h2,h3,-⟩
    cases h2
    omega
   ·rw [xf1 (by omega)];show a0J (K.slots.set w0.at_.toNat (a3m (a0J K.slots w0.at_.toNat))) i=_;rw [hb,show ((b:Nat):Int).toNat=b from rfl,a6P];by_cases e:b=i
    ·subst e;rw [xf0 ⟨rfl,hbl⟩,xf0 ⟨w0,rfl,k,hb⟩]
    ·rw [xf1 (fun hh=>e hh.1),xf1];rintro ⟨w1,h2,-,h3⟩
     cases h2
     rw [hb] at h3;exact e (by omega)
 -- who names what
 have hN1:∀ i:Nat,(∃ w0,was=some w0/\w0.kind=1/\w0.at_=(i:Nat))->∃ n,(j6 K.spaces 1 (i:Nat)).Perm (n::M 1 (i:Nat)):=fun i ⟨w0,hw,h1,h2⟩=>by
  refine ⟨a0Q s w0,(hM 1 (i:Nat)).trans ?_⟩;rw [hw,xp7,a6c [] ⟨h1,h2⟩];exact List.Perm.refl _
 have hN1':∀ (k:Int) (i:Nat),¬(∃ w0,was=some w0/\w0.kind=k/\w0.at_=(i:Nat))->(j6 K.spaces k (i:Nat)).Perm (M k (i:Nat)):=fun k i hno=>by
  refine (hM k (i:Nat)).trans ?_
  cases hw:was with
  |none=>exact List.Perm.refl _
  |some w0=>
   rw [xp7,a9i [] (fun hh=>hno ⟨w0,hw,hh.1,hh.2⟩)];exact List.Perm.refl _
 have hN2:∀ i:Nat,(∃ w0,was=some w0/\w0.kind=2/\w0.at_=(i:Nat))->∃ n,(j6 K.spaces 2 (i:Nat)).Perm (n::M 2 (i:Nat)):=fun i ⟨w0,hw,h1,h2⟩=>by
  refine ⟨a0Q s w0,(hM 2 (i:Nat)).trans ?_⟩;rw [hw,xp7,a6c [] ⟨h1,h2⟩];exact List.Perm.refl _
 have hNn:∀ (k:Int) (i:Nat),¬(k=1/\i=f)->(j6 (K.spaces.set sp s') k (i:Nat)).Perm (M k (i:Nat)):=fun k i hno=>by
  refine (hM' k (i:Nat)).trans ?_;rw [he',a9i []]
  ·exact List.Perm.refl _
  ·rintro ⟨h1,h2⟩;exact hno ⟨h1.symm,by have:((f:Nat):Int)=(i:Nat):=h2;omega⟩
 have hNf:(j6 (K.spaces.set sp s') 1 (f:Nat)).Perm [a0Q s e']:=by
  refine (hM' 1 (f:Nat)).trans ?_;rw [hMf,a6c [] (by rw [he'];exact ⟨rfl,rfl⟩)];exact List.Perm.refl _
 -- an entry that stays: its data
 have hdata:∀ (x:En),(x.kind=1\/x.kind=2)->(∃ b:Nat,x.at_=(b:Nat)/\(x.kind=1->b < K.frames.length)/\(x.kind=2->b < K.slots.length))->M x.kind x.at_≠[]->a0y ⟨K.sheets,(a1W (a0j K f ⟨data,1,dirty,false⟩) was).frames,(a1W (a0j K f ⟨data,1,dirty,false⟩) was).slots,K.spaces.set sp s',K.hand⟩ x=a0y K x:=fun x hk ⟨b,hb,hb1,hb2⟩ hne=>by
  unfold a0y;rcases hk with hk|hk
  ·rw [xf0 hk,xf0 hk];dsimp only;rw [hb,show ((b:Nat):Int).toNat=b from rfl,hfr];rw [hk,hb] at hne;by_cases e:b=f
   ·subst e;exact absurd hMf hne
   ·rw [xf1 e];by_cases hw:∃ w0,was=some w0/\w0.kind=1/\w0.at_=(b:Nat)
    ·rw [xf0 hw];obtain ⟨n,hn⟩:=hN1 b hw;have hbo:=(h.fr b _ (xe1 (hb1 hk))).perm hn;rw [p9 (xe1 (hb1 hk))]
     cases hMb:M 1 (b:Nat) with
     |nil=>exact absurd hMb hne
     |cons m N=>
      rw [hMb] at hbo;exact b4l hbo
    ·rw [xf1 hw]
  ·rw [xf1 (by omega),xf1 (by omega)];dsimp only;rw [hb,show ((b:Nat):Int).toNat=b from rfl,hsl];rw [hk,hb] at hne;by_cases hw:∃ w0,was=some w0/\w0.kind=2/\w0.at_=(b:Nat)
   ·rw [xf0 hw];obtain ⟨n,hn⟩:=hN2 b hw;have hbo:=(h.sl b _ (xe1 (hb2 hk))).perm hn;rw [a1J (xe1 (hb2 hk))]
    cases hMb:M 2 (b:Nat) with
    |nil=>exact absurd hMb hne
    |cons m N=>
     rw [hMb] at hbo;exact b2c hbo
   ·rw [xf1 hw]
 have hfmf:m6 (a1W (a0j K f ⟨data,1,dirty,false⟩) was).frames f=⟨data,1,dirty,false⟩:=by rw [hfr,xf0 rfl]
 have hcnt:=h.cnt;have hhand:=h.hand;refine ⟨⟨?_,h.rise,?_,fun x hx=>?_,?_,fun i g hg=>?_,fun i g hg=>?_⟩,rfl,hlf,hls,by simp,har,hlv,fun i p hno=>?_,?_,hen,hfmf,fun i hi hw=>?_⟩
 ·dsimp only;rw [hlf,hls,xa8];exact hcnt
 ·dsimp only;rw [hlf];exact hhand
 ·dsimp only at hx |-;rw [hlf,hls];rcases xm8 hx with hx|rfl
  ·exact h.spaces x hx
  ·rw [a1b,hs'];refine ⟨fun hl=>(by rw [hlive] at hl;cases hl),hsc.ar,hsc.pages,fun e he=>?_,r3⟩;rcases xc4.1 (r2.mem_iff.1 he) with rfl|he
   ·rw [he'];exact ⟨ha,xd6 ⟨rfl,Int.natCast_nonneg f,by show ((f:Nat):Int) < _;omega⟩⟩
   ·exact hsc.ents e (r1.mem_iff.2 (xe6 _ he))
 ·dsimp only;rw [hls];have:a0n (K.spaces.set sp s')=a0n K.spaces:=by
   unfold a0n;rw [xl1,hs']
   congr 1
   refine xh1 fun j=>?_;rw [xe0];by_cases e:sp=j
   ·subst e;rw [xf0 rfl,xi9,xf0 (d6 hs),xh6,hs];rfl
   ·rw [xf1 e]
  rw [this];exact h.room
 ·dsimp only at hg |-;have hil:i < K.frames.length:=by have:=d6 hg;omega
  have hgi:=xe1 hil;have hge:=hfr i;rw [p9 hg,p9 hgi] at hge;by_cases e:i=f
  ·subst e;rw [xf0 rfl] at hge;refine FmOk.perm (N:=[a0Q s e']) ?_ hNf.symm;rw [hge];refine ⟨rfl,(fun hh=>by cases hh),fun _=>hd,fun n hn m hm=>?_,fun n hn=>?_⟩
   ·rw [xi8] at hn hm;subst hn;subst hm;exact ⟨rfl,rfl⟩
   ·rw [xi8] at hn;subst hn;rcases hfill with hh|hh
    ·exact xd6 hh
    ·right;rw [b4I hs,hpe];rw [show (a0Q s e').1.page=page from hpe];exact hh
  ·rw [xf1 e] at hge;have hpm:=hNn 1 i (fun hh=>e hh.2);by_cases hw:∃ w0,was=some w0/\w0.kind=1/\w0.at_=(i:Nat)
   ·rw [xf0 hw] at hge;obtain ⟨n,hn⟩:=hN1 i hw;rw [hge];exact ((h.fr i _ hgi).perm hn).dec.perm hpm.symm
   ·rw [xf1 hw] at hge;rw [hge];exact (h.fr i _ hgi).perm ((hN1' 1 i hw).trans hpm.symm)
 ·dsimp only at hg |-;have hil:i < K.slots.length:=by have:=d6 hg;omega
  have hgi:=xe1 hil;have hge:=hsl i;rw [a1J hg,a1J hgi] at hge;have hpm:=hNn 2 i (fun hh=>by omega);by_cases hw:∃ w0,was=some w0/\w0.kind=2/\w0.at_=(i:Nat)
  ·rw [xf0 hw] at hge;obtain ⟨n,hn⟩:=hN2 i hw;rw [hge];exact ((h.sl i _ hgi).perm hn).dec.perm hpm.symm
  ·rw [xf1 hw] at hge;rw [hge];exact (h.sl i _ hgi).perm ((hN1' 2 i hw).trans hpm.symm)
 ·unfold a2o;rw [hen,xf1 hno]
  cases hx:l9 (j9 K i) p with
  |none=>exact a5G (hs:=by rfl) (ha:=har i) p
  |some x=>
   show a0y _ x=a0y K x;obtain ⟨hx1,hx2⟩:=a0a hx
   cases hi:K.spaces[i]? with
   |none=>unfold j9 at hx1;rw [a5q hi] at hx1;cases hx1
   |some t=>
    unfold j9 at hx1;rw [a1o hi] at hx1;have hin:=(h.ent hi hx1).2;have hk:x.kind=1\/x.kind=2:=by rcases hin with ⟨a,-⟩|⟨a,-⟩ <;> omega
    refine hdata x hk ?_ ?_
    ·rcases hin with ⟨a,b,c,d⟩|⟨a,b,c,d⟩
     ·exact ⟨b,c,fun _=>d,fun hh=>by omega⟩
     ·exact ⟨b,c,fun hh=>by omega,fun _=>d⟩
    ·rw [<- hMe];intro hnil;obtain ⟨h1,h2⟩:=xo3.1 hnil;by_cases e:i=sp
     ·subst e;rw [hs] at hi
      cases hi
      have hxR:x ∈ R:=by
       rcases xe3.1 (r1.mem_iff.1 hx1) with h4|h4
       ·exfalso;rw [Option.mem_toList,hwas] at h4;exact hno ⟨rfl,hx2.symm.trans (a0a h4).2⟩
       ·exact h4
      have:a0Q s x ∈ nmL s x.kind x.at_ R:=xm5.2 ⟨x,xo7.2 ⟨hxR,by simp⟩,rfl⟩;rw [h1] at this
      cases this
     ·have hte:t ∈ K.spaces.eraseIdx sp:=List.mem_eraseIdx_iff_getElem?.2 ⟨i,e,hi⟩;have:a0Q t x ∈ j6 (K.spaces.eraseIdx sp) x.kind x.at_:=by
       rw [a0K,xq6];exact ⟨t,hte,xm5.2 ⟨x,xo7.2 ⟨hx1,by simp⟩,rfl⟩⟩
      rw [h2] at this
      cases this
 ·unfold a2o;rw [hen,xf0 ⟨rfl,rfl⟩];show a0y _ (⟨page,1,(f:Nat)⟩:En)=data;unfold a0y;rw [xf0 rfl];show (m6 (a1W (a0j K f ⟨data,1,dirty,false⟩) was).frames f).data=data;rw [hfmf]
 ·show m6 (a1W (a0j K f ⟨data,1,dirty,false⟩) was).frames i=_;rw [hfr,xf1 hi,xf1];rintro ⟨w0,h1,h2,h3⟩;exact hw w0 (by rw [hent,<- hwas];exact h1) ⟨h2,h3⟩
end Go.Proofs.YtejnpppejalhfabGreat
