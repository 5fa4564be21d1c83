/- Texts that the proof stands on, one behind the other: Ke12, PlRun3, PlRun4, PlRun5, PlRun6. -/
import Derived.Test.YtejnpppejalhfabGreatPKernelStores8
set_option linter.unusedVariables false
set_option linter.unusedSimpArgs false
namespace Go.Proofs.YtejnpppejalhfabGreat
set_option maxRecDepth 100000
set_option maxHeartbeats 8000000
open Go.RowKit Go.Sort
theorem b0D {l:List Sh} {nf ns:Int} {L:List Sc} (h:L.all (t3 l nf ns)=true) {k a:Int} {n:Nm} (hn:n ∈ j6 L k a):∃ x,a0H l n.2.z n.1.page=some x:=by
 unfold j6 at hn;obtain ⟨s,hs,h2⟩:=xj2.1 hn;obtain ⟨e,he,rfl⟩:=xj0.1 h2;have hsc:=a08.1 (xc7.1 h s hs);obtain ⟨b,hb⟩:=xi3.1 (hsc.ents e (xj1.1 he).1).1;have hm:=xi2 hb;have hh:=xi4 hb;unfold z8 Ar.fin at hh;rw [xb3] at hh;have hp:=hsc.pages;unfold a1C at hp;have h3:=xc7.1 (xc7.1 hp b hm) (e.page - b.pg).toNat (by rw [xi5];omega);rw [show b.pg + (((e.page - b.pg).toNat:Nat):Int)=e.page by omega] at h3;obtain ⟨d,hd⟩:=xi3.1 h3;exact ⟨d,by unfold a0J;rw [hb];exact hd⟩
theorem a7U (N:List Nm):∃ p q a,a0Y N=((N.length:Int),p,q,a)/\(∀ n r,N=n::r->q=a0N N/\(a0N N=true->p=n.1.page/\a.z=n.2.z)):=by
 rcases h:a0Y N with ⟨c,p,q,a⟩
 have hl:=b0o N;rw [h] at hl;dsimp only at hl;subst hl;refine ⟨p,q,a,rfl,fun n r e=>?_⟩;subst e;have:=a8y (n:=n) (r:=r);rw [h] at this;exact this
theorem a9R {K:Ker} (h:∀ (j:Nat) f,K.frames[j]?=some f->a1m K.sheets f (j6 K.spaces 1 (j:Nat))=true):a03 K=true:=by
 unfold a03;rw [xc7];intro i _
 cases hf:K.frames[i]? with
 |none=>rfl
 |some f=>exact h i f hf
theorem a10 {K:Ker} {j:Nat} {f:Fm} (hf:K.frames[j]?=some f) (h:a1m K.sheets f (j6 K.spaces 1 (j:Nat))=false):a03 K=false:=by
 unfold a03;rw [xq7];exact ⟨j,xi5.2 (c9 hf),by rw [hf];simpa using h⟩
theorem b2z {K:Ker} (h:∀ (j:Nat) f,K.slots[j]?=some f->a1Z f (j6 K.spaces 2 (j:Nat))=true):a1O K=true:=by
 unfold a1O;rw [xc7];intro i _
 cases hf:K.slots[i]? with
 |none=>rfl
 |some f=>exact h i f hf
theorem a23 {K:Ker} {j:Nat} {f:Sw} (hf:K.slots[j]?=some f) (h:a1Z f (j6 K.spaces 2 (j:Nat))=false):a1O K=false:=by
 unfold a1O;rw [xq7];exact ⟨j,xi5.2 (c9 hf),by rw [hf];simpa using h⟩
theorem a9O {w:World} {k:KV} (hK:KerV w k):Fn Tryz.prog 24 [.agg (kvC k).toArray] w (RBf (.int .i64 (a07 k.K)) w):=by
 have b1:=hK.fr.bound;have b2:=hK.sl.bound;have b3:=hK.sp.bound;have b4:=hK.sh.sl.bound;have hsf:=fun w1 (h:KerV w1 k) (p:Sp) (hp:p ∈ k.sp)=>a8H h (h.spv p hp);obtain ⟨sh,fr,sl,sp,hand,vsh,vfr,vsl,vsp⟩:=k;have hK0:=hK;obtain ⟨k1,k2,k3,k4,k5⟩:=hK;dsimp only at b1 b2 b3 b4 k1 k2 k3 k4 k5 hsf;obtain ⟨p1,c1,rfl⟩:=k1.sl.len;obtain ⟨p2,c2,rfl⟩:=k2.len;obtain ⟨p3,c3,rfl⟩:=k3.len;obtain ⟨p4,c4,rfl⟩:=k4.len;unfold kvC a07 KV.K;unfold kvC at hsf;dsimp only at hsf |-;by_cases hcnt:a1V ⟨shs sh,fr,sl,sp.map (·.s),hand⟩=true;rotate_left
 ·rw [xf1 hcnt];unfold a1V at hcnt;rw [xb3] at hcnt;dsimp only at hcnt;rw [xj4,a1X] at hcnt;refine yEn Tryz.func24 Tryz.ntmps24 (by kernel_rfl) (by kernel_rfl) rfl rfl ?_;have hS:=St.start w
  repeat' (first|(with_reducible apply a8 a7);rfl;rfl;rfl|(with_reducible apply a9);rfl;(apply Ld.sl a7;rfl;exact hS.blkC 0 rfl rfl);rfl|refine yDn (by with_reducible constructor) ?_|(with_reducible apply k6);(iterate 4 rfl);assumption|(with_reducible apply r9);(iterate 4 rfl);(first|rfl|assumption);rfl|(with_reducible apply f7);rfl;(first|rfl|assumption);rfl;rfl|(with_reducible apply d9);rfl;assumption;rfl;rfl|(with_reducible apply f6);rfl;rfl|(with_reducible apply l9 hS);rfl;rfl;rfl;clear hS;intro g w' hS|(with_reducible apply r5);rfl;rfl;rfl;all_goals (intro hb hp;try (exfalso;omega))|(with_reducible apply a1S);rfl;rfl;rfl;all_goals (intro hb hp;try (exfalso;omega))|(with_reducible apply b9);rfl;all_goals (intro hb hp;try (exfalso;omega))|(with_reducible apply d6 hS);rfl;rfl;rfl;refine ⟨_,o4 _ _ _ _,?_⟩;clear hS;intro w' hS)
  all_goals (apply t9)
  all_goals (repeat (first|exact ResL.nil|apply ResL.tmp;rfl))
  all_goals (exact ⟨rfl,hS.sub (xj6 _)⟩)
 rw [xf0 hcnt];unfold a1V at hcnt;rw [xb3] at hcnt;dsimp only at hcnt;rw [xj4,a1X] at hcnt;have hshe:=fun w1 (h:ShsV w1 sh (.slice p1 sh.length c1))=>a7j h;have hfe:a5K ⟨shs sh,fr,sl,sp.map (·.s),hand⟩=((a0V 0 (shs sh) && decide (0<=hand/\hand < (fr.length:Int))) && ((sp.map (·.s)).all (t3 (shs sh) fr.length sl.length) && (decide (a0g (sp.map (·.s))<=(sl.length:Int)) && (a03 ⟨shs sh,fr,sl,sp.map (·.s),hand⟩ && a1O ⟨shs sh,fr,sl,sp.map (·.s),hand⟩)))):=rfl
 cases hsh:a0V 0 (shs sh) with
 |false=>
  rw [hsh] at hshe hfe;rw [xq2,xq2] at hfe;rw [hfe];refine yEn Tryz.func24 Tryz.ntmps24 (by kernel_rfl) (by kernel_rfl) rfl rfl ?_;have hS:=St.start w
  repeat' (first|(with_reducible apply a8 a7);rfl;rfl;rfl|(with_reducible apply a9);rfl;(apply Ld.sl a7;rfl;exact hS.blkC 0 rfl rfl);rfl|refine yDn (by with_reducible constructor) ?_|(with_reducible apply k6);(iterate 4 rfl);assumption|(with_reducible apply r9);(iterate 4 rfl);rfl;rfl|(with_reducible apply f7);rfl;rfl;rfl;rfl|(with_reducible apply d9);rfl;assumption;rfl;rfl|(with_reducible apply f6);rfl;rfl|(with_reducible apply l9 hS);rfl;rfl;rfl;clear hS;intro g w' hS|(with_reducible apply r5);rfl;rfl;rfl;all_goals (intro hb hp;try (exfalso;omega))|(with_reducible apply a1S);rfl;rfl;rfl;all_goals (intro hb hp;try (exfalso;omega))|(with_reducible apply b9);rfl;all_goals (intro hb hp;try (exfalso;omega))|(with_reducible apply d6 hS);rfl;rfl;rfl;refine ⟨_,o4 _ _ _ _,?_⟩;clear hS;intro w' hS|(with_reducible apply d6 hS);rfl;rfl;rfl;refine ⟨_,hshe _ (k1.now hS),?_⟩;clear hS;intro w' hS)
  (refine k8 rfl ?_)
  exact ⟨rfl,hS.sub (xj6 _)⟩
 |true=>
  rw [hsh] at hshe hfe;rw [xq1] at hfe;by_cases hh:0<=hand/\hand<=(fr.length:Int) - 1;rotate_left
  ·rw [xj5 (fun h=>hh ⟨h.1,by omega⟩),xq2] at hfe;rw [hfe];refine yEn Tryz.func24 Tryz.ntmps24 (by kernel_rfl) (by kernel_rfl) rfl rfl ?_;have hS:=St.start w
   repeat' (first|(with_reducible apply a8 a7);rfl;rfl;rfl|(with_reducible apply a9);rfl;(first|apply Ld.sc a7;rfl;exact hS.blkC 0 rfl rfl|apply Ld.sl a7;rfl;exact hS.blkC 0 rfl rfl);rfl|(with_reducible apply a0h);rfl;rfl;omega;omega;rfl|refine yDn (by with_reducible constructor) ?_|((with_reducible apply k6);(iterate 4 rfl);first|rfl|assumption)|(with_reducible apply d9);rfl;(first|rfl|assumption);rfl;rfl|(with_reducible apply l9 hS);rfl;rfl;rfl;clear hS;intro g w' hS|(with_reducible apply r5);rfl;rfl;rfl;all_goals (intro hb hp;try (exfalso;omega))|(with_reducible apply a1S);rfl;rfl;rfl;all_goals (intro hb hp;try (exfalso;omega))|(with_reducible apply b9);rfl;all_goals (intro hb hp;try (exfalso;omega))|(with_reducible apply a1u);rfl;all_goals (intro hb hp;try (exfalso;omega))|(with_reducible apply d6 hS);rfl;rfl;rfl;refine ⟨_,o4 _ _ _ _,?_⟩;clear hS;intro w' hS|(with_reducible apply d6 hS);rfl;rfl;rfl;refine ⟨_,hshe _ (k1.now hS),?_⟩;clear hS;intro w' hS)
   (refine k8 rfl ?_)
   exact ⟨rfl,hS.sub (xj6 _)⟩
  rw [xj7 (⟨hh.1,by omega⟩:0<=hand/\hand < (fr.length:Int)),xq1] at hfe;refine yEn Tryz.func24 Tryz.ntmps24 (by kernel_rfl) (by kernel_rfl) rfl rfl ?_;have hS:=St.start w
  repeat' (first|(with_reducible apply a8 a7);rfl;rfl;rfl|(with_reducible apply a9);rfl;(first|apply Ld.sc a7;rfl;exact hS.blkC 0 rfl rfl|apply Ld.sl a7;rfl;exact hS.blkC 0 rfl rfl);rfl|(with_reducible apply a0h);rfl;rfl;omega;omega;rfl|refine yDn (by with_reducible constructor) ?_|((with_reducible apply k6);(iterate 4 rfl);first|rfl|assumption)|(with_reducible apply d9);rfl;(first|rfl|assumption);rfl;rfl|(with_reducible apply l9 hS);rfl;rfl;rfl;clear hS;intro g w' hS|(with_reducible apply r5);rfl;rfl;rfl;all_goals (intro hb hp;try (exfalso;omega))|(with_reducible apply a1S);rfl;rfl;rfl;all_goals (intro hb hp;try (exfalso;omega))|(with_reducible apply b9);rfl;all_goals (intro hb hp;try (exfalso;omega))|(with_reducible apply a1u);rfl;all_goals (intro hb hp;try (exfalso;omega))|(with_reducible apply d6 hS);rfl;rfl;rfl;refine ⟨_,o4 _ _ _ _,?_⟩;clear hS;intro w' hS|(with_reducible apply d6 hS);rfl;rfl;rfl;refine ⟨_,hshe _ (k1.now hS),?_⟩;clear hS;intro w' hS)
  refine a1A hS 3 [1] rfl sp.length (fun i=>((sp.map (·.s)).take i).all (t3 (shs sh) fr.length sl.length)=true) 0 rfl (xg5 _) rfl ?_;rintro i w1 hi hall hS';clear hS;have hS:=hS';clear hS';by_cases hlt:i < sp.length
  ·obtain ⟨x,hx⟩:=j5 (l:=sp) (i:=i) (by omega);have hxs:(sp.map (·.s))[i]?=some x.s:=d5 (f:=fun p:Sp=>p.s) hx;have hrow:=d5 (f:=spC) hx;obtain ⟨b,off,rfl,hro⟩:=k4.at_ (i:=i) hlt;have hfx:=fun w1 h=>hsf w1 h x (xd0 hx)
   cases hsp:t3 (shs sh) fr.length sl.length x.s with
   |false=>
    rw [hsp] at hfx
    repeat' (first|(with_reducible apply a8 a7);rfl;rfl;rfl|(with_reducible apply a9);rfl;(apply Ld.sl a7;rfl;exact hS.blkC 0 rfl rfl);rfl|refine yDn (by with_reducible constructor) ?_|(with_reducible apply b9);rfl;all_goals (intro hb hp;try (exfalso;omega)))
    (focus ((with_reducible apply d8 _ _ _ (by kernel_rfl) (by kernel_rfl) hS);(repeat' (first|(first|(with_reducible apply i9 a7);rfl;rfl|(with_reducible apply i7);rfl;(intro wd hd;replace hd:St _ _ wd _:=hd;(first|apply Ld.sl a7;rfl;exact hd.blkC 0 rfl rfl|apply Ld.st a7;rfl;(first|exact hd.blkR 0 rfl|exact hd.roR (by assumption) (by assumption));rfl));rfl|(with_reducible apply x6 a7);rfl;rfl;rfl;rfl;omega;rfl)|(with_reducible apply y0);rfl;rfl;rfl;refine ⟨_,fun wd hd=>hfx _ (hK0.now hd),?_⟩));all_goals ((with_reducible apply j9);intro w' hS';clear hS;have hS:=hS';clear hS')))
    repeat' (first|(with_reducible apply a8 a7);rfl;rfl;rfl|refine yDn (by with_reducible constructor) ?_|(with_reducible apply f6);rfl;rfl)
    (refine k8 rfl ?_)
    refine ⟨?_,hS.sub (xj6 _)⟩;have hno:(sp.map (·.s)).all (t3 (shs sh) fr.length sl.length)=false:=by
     rw [xq7];exact ⟨x.s,xd0 hxs,by rw [hsp];simp⟩
    rw [hfe,hno,xq2];rfl
   |true=>
    rw [hsp] at hfx
    repeat' (first|(with_reducible apply a8 a7);rfl;rfl;rfl|(with_reducible apply a9);rfl;(apply Ld.sl a7;rfl;exact hS.blkC 0 rfl rfl);rfl|refine yDn (by with_reducible constructor) ?_|(with_reducible apply b9);rfl;all_goals (intro hb hp;try (exfalso;omega)))
    (focus ((with_reducible apply d8 _ _ _ (by kernel_rfl) (by kernel_rfl) hS);(repeat' (first|(first|(with_reducible apply i9 a7);rfl;rfl|(with_reducible apply i7);rfl;(intro wd hd;replace hd:St _ _ wd _:=hd;(first|apply Ld.sl a7;rfl;exact hd.blkC 0 rfl rfl|apply Ld.st a7;rfl;(first|exact hd.blkR 0 rfl|exact hd.roR (by assumption) (by assumption));rfl));rfl|(with_reducible apply x6 a7);rfl;rfl;rfl;rfl;omega;rfl)|(with_reducible apply y0);rfl;rfl;rfl;refine ⟨_,fun wd hd=>hfx _ (hK0.now hd),?_⟩));all_goals ((with_reducible apply j9);intro w' hS';clear hS;have hS:=hS';clear hS')))
    repeat' (first|(with_reducible apply a8 a7);rfl;rfl;rfl|(with_reducible apply j4);rfl;rfl;omega;omega;rfl|refine yDn (by with_reducible constructor) ?_|(with_reducible apply f8);rfl;rfl)
    refine a0R (i + 1) (by exact Fr.sub_of rfl) (by omega) ?_ (by omega) hS;rw [q8 hxs,List.all_append,hall,xp0,hsp];rfl
  have hspa:(sp.map (·.s)).all (t3 (shs sh) fr.length sl.length)=true:=by
   rw [xa0 (by rw [xj4];omega)] at hall;exact hall
  clear hall;rw [hspa,xq1] at hfe;have hokp:∀ p ∈ sp,t3 (shs sh) fr.length sl.length p.s=true:=fun p hp=>xc7.1 hspa p.s (xj0.2 ⟨p,hp,rfl⟩);have hchk:∀ p ∈ sp,l7 p.s.areas=0:=fun p hp=>(a08.1 (hokp p hp)).ar;have hroom:=fun w1 h=>b4Y (w:=w1) (k:=⟨sh,fr,sl,sp,hand,.slice p1 sh.length c1,.slice p2 fr.length c2,.slice p3 sl.length c3,.slice p4 sp.length c4⟩) h hchk (by show sp.length<=4;omega);have hnm:=fun w1 h kd a=>b1L (w:=w1) (k:=⟨sh,fr,sl,sp,hand,.slice p1 sh.length c1,.slice p2 fr.length c2,.slice p3 sl.length c3,.slice p4 sp.length c4⟩) h hchk (by show sp.length<=4;omega) (fun p hp=>(a5l (hokp p hp)).1) kd a;unfold kvC at hroom hnm;dsimp only at hroom hnm;by_cases hrm:(sl.length:Int) < a0g (sp.map (·.s))
  ·rw [xj5 (by omega),xq2] at hfe;rw [hfe]
   repeat' (first|(with_reducible apply a8 a7);rfl;rfl;rfl|(with_reducible apply a9);rfl;(apply Ld.sl a7;rfl;exact hS.blkC 0 rfl rfl);rfl|refine yDn (by with_reducible constructor) ?_|(with_reducible apply b9);rfl;all_goals (intro hb hp;try (exfalso;omega)))
   (focus ((with_reducible apply d8 _ _ _ (by kernel_rfl) (by kernel_rfl) hS);(repeat' (first|(first|(with_reducible apply i9 a7);rfl;rfl|(with_reducible apply i7);rfl;(intro wd hd;replace hd:St _ _ wd _:=hd;(first|apply Ld.sl a7;rfl;exact hd.blkC 0 rfl rfl|apply Ld.st a7;rfl;exact hd.blkR 0 rfl;rfl));rfl)|(with_reducible apply y0);rfl;rfl;rfl;refine ⟨_,fun wd hd=>hroom _ (hK0.now hd),?_⟩));all_goals ((with_reducible apply j9);intro w' hS';clear hS;have hS:=hS';clear hS')))
   repeat' (first|(with_reducible apply a8 a7);rfl;rfl;rfl|refine yDn (by with_reducible constructor) ?_|(with_reducible apply b9);rfl;all_goals (intro hb hp;try (exfalso;omega)))
   (refine k8 rfl ?_)
   exact ⟨rfl,hS.sub (xj6 _)⟩
  rw [xj7 (by omega),xq1] at hfe
  repeat' (first|(with_reducible apply a8 a7);rfl;rfl;rfl|(with_reducible apply a9);rfl;(apply Ld.sl a7;rfl;exact hS.blkC 0 rfl rfl);rfl|refine yDn (by with_reducible constructor) ?_|(with_reducible apply b9);rfl;all_goals (intro hb hp;try (exfalso;omega)))
  (focus ((with_reducible apply d8 _ _ _ (by kernel_rfl) (by kernel_rfl) hS);(repeat' (first|(first|(with_reducible apply i9 a7);rfl;rfl|(with_reducible apply i7);rfl;(intro wd hd;replace hd:St _ _ wd _:=hd;(first|apply Ld.sl a7;rfl;exact hd.blkC 0 rfl rfl|apply Ld.st a7;rfl;exact hd.blkR 0 rfl;rfl));rfl)|(with_reducible apply y0);rfl;rfl;rfl;refine ⟨_,fun wd hd=>hroom _ (hK0.now hd),?_⟩));all_goals ((with_reducible apply j9);intro w' hS';clear hS;have hS:=hS';clear hS')))
  repeat' (first|(with_reducible apply a8 a7);rfl;rfl;rfl|refine yDn (by with_reducible constructor) ?_|(with_reducible apply b9);rfl;all_goals (intro hb hp;try (exfalso;omega)))
  refine a1A hS 4 [1] rfl fr.length (fun i=>∀ (j:Nat) f,j < i->fr[j]?=some f->a1m (shs sh) f (j6 (sp.map (·.s)) 1 (j:Nat))=true) 0 rfl (xg5 _) (fun _ _ h=>absurd h (Nat.not_lt_zero _)) ?_;rintro i w2 hi hall hS';clear hS;have hS:=hS';clear hS';by_cases hlt:i < fr.length
  ·obtain ⟨f,hf⟩:=j5 (l:=fr) (i:=i) (by omega);have hrow:=d5 (f:=fmC) hf;obtain ⟨b,off,rfl,hro⟩:=k2.at_ (i:=i) hlt;unfold fmC at hrow;have hn1:=fun w1 h=>hnm w1 h 1 (i:Nat);obtain ⟨p,q,a,hN,hN2⟩:=a7U (j6 (sp.map (·.s)) 1 (i:Nat));unfold nmV at hn1;rw [hN] at hn1;have hfl:=fun x (hx:a0H (shs sh) a.z p=some x) w1 h=>a80 (w:=w1) (k:=⟨sh,fr,sl,sp,hand,.slice p1 sh.length c1,.slice (some ⟨b,off,none⟩) fr.length c2,.slice p3 sl.length c3,.slice p4 sp.length c4⟩) h (a:=a) (p:=p) (x:=x) hsh hx;unfold kvC at hfl;unfold arC at hn1 hfl;dsimp only at hn1 hfl;have hfn:=fun n (hn:n ∈ j6 (sp.map (·.s)) 1 (i:Nat))=>b0D hspa hn;obtain ⟨N,hNN⟩:∃ N,N=j6 (sp.map (·.s)) 1 (i:Nat):=⟨_,rfl⟩;rw [<- hNN] at hn1 hN2 hfn;obtain ⟨c,hc⟩:∃ c:Int,c=(N.length:Int):=⟨_,rfl⟩;rw [<- hc] at hn1;obtain ⟨dt,rf,dy,sn⟩:=f;dsimp only at hrow;have hfil:=hfl;have heq:=True.intro
   repeat' (first|(with_reducible apply a8 a7);rfl;rfl;rfl|(with_reducible apply a9);rfl;(first|apply Ld.sl a7;rfl;exact hS.blkC 0 rfl rfl|apply Ld.st a7;rfl;(first|exact hS.blkR 1 rfl|exact hS.roR (by assumption) (by assumption));rfl);rfl|(with_reducible apply l8 a7);rfl;rfl;rfl;rfl;omega;rfl|refine yDn (by with_reducible constructor) ?_|(with_reducible apply d7 hS a7);rfl;rfl;rfl;clear hS;intro g w' hS|(with_reducible apply b8 hS a7 (i:=0));(iterate 8 rfl);exact (rfl:_=[_,_,_,_]);clear hS;intro w' hS;simp only [List.set] at hS|(with_reducible apply b9);rfl;all_goals (intro hb hp;try (exfalso;omega))|(with_reducible apply d6 hS);rfl;rfl;rfl;refine ⟨_,hn1 _ (hK0.now hS),?_⟩;clear hS;intro w' hS)
   by_cases hr:rf=c;rotate_left
   ·have hdr:(!decide (rf=c))=true:=by rw [xj5 hr];rfl
    (focus ((with_reducible apply d8 _ _ _ (by kernel_rfl) (by kernel_rfl) hS);(repeat' ((first|(with_reducible apply i9 a7);rfl;rfl|(with_reducible apply i7);rfl;(intro wd hd;replace hd:St _ _ wd _:=hd;(apply Ld.sc a7;rfl;exact hd.blkC 1 rfl rfl));rfl|(first|(with_reducible apply a2j);(iterate 4 rfl);(first|rfl|assumption);rfl|(with_reducible apply a2A);(iterate 5 rfl)|(with_reducible apply t7);rfl;(first|rfl|assumption);rfl;rfl))));all_goals ((with_reducible apply j9);intro w' hS';clear hS;have hS:=hS';clear hS')))
    repeat' (first|(with_reducible apply a8 a7);rfl;rfl;rfl|refine yDn (by with_reducible constructor) ?_|(with_reducible apply f6);rfl;rfl)
    (refine k8 rfl ?_)
    refine ⟨?_,hS.sub (xj6 _)⟩;rw [hfe,a10 hf (by rw [<- hNN,xr0];exact fun h=>hr ((a2k.1 h).refs.trans hc.symm)),xq2];rfl
   have hdr:(!decide (rf=c))=false:=by rw [xj7 hr];rfl
   cases N with
   |nil=>
    have hz:decide (c=0)=true:=xj7 hc;have hgt:decide (0 < c)=false:=xj5 (by rw [hc];simp);by_cases h0:(⟨dt,rf,dy,sn⟩:Fm)=fm0
    ·have heq:=b5e (⟨dt,rf,dy,sn⟩:Fm) fm0;rw [xj7 h0] at heq
     (focus ((with_reducible apply d8 _ _ _ (by kernel_rfl) (by kernel_rfl) hS);(repeat' (first|(first|(with_reducible apply i9 a7);rfl;rfl|(with_reducible apply i7);rfl;(intro wd hd;replace hd:St _ _ wd _:=hd;(first|apply Ld.sc a7;rfl;exact hd.blkC 1 rfl rfl|apply Ld.st a7;rfl;exact hd.blkR 1 rfl;rfl));rfl|(with_reducible apply a1U a7);rfl;rfl;exact (rfl:_=some [_,_,_,_]);rfl|(first|((with_reducible apply a0p);(iterate 4 rfl);first|rfl|assumption)|(with_reducible apply a2j);(iterate 4 rfl);assumption;rfl|(with_reducible apply a2A);(iterate 5 rfl)|(with_reducible apply t7);rfl;assumption;rfl;rfl|(with_reducible apply r7);rfl;(first|rfl|assumption);rfl;rfl))|(with_reducible apply a6l);rfl;rfl;exact heq;rfl));all_goals ((with_reducible apply j9);intro w' hS';clear hS;have hS:=hS';clear hS')))
     repeat' (first|(with_reducible apply a8 a7);rfl;rfl;rfl|(with_reducible apply j4);rfl;rfl;omega;omega;rfl|refine yDn (by with_reducible constructor) ?_|(with_reducible apply f8);rfl;rfl)
     refine a0R (i + 1) (by exact Fr.sub_of rfl) (by omega) (fun j y hj hy=>?_) (by omega) hS.drop.drop;by_cases e:j=i
     ·subst e;rw [hf] at hy
      cases hy
      exact by rw [<- hNN];exact xj7 h0
     ·exact hall j y (by omega) hy
    ·have heq:=b5e (⟨dt,rf,dy,sn⟩:Fm) fm0;rw [xj5 h0] at heq
     (focus ((with_reducible apply d8 _ _ _ (by kernel_rfl) (by kernel_rfl) hS);(repeat' (first|(first|(with_reducible apply i9 a7);rfl;rfl|(with_reducible apply i7);rfl;(intro wd hd;replace hd:St _ _ wd _:=hd;(first|apply Ld.sc a7;rfl;exact hd.blkC 1 rfl rfl|apply Ld.st a7;rfl;exact hd.blkR 1 rfl;rfl));rfl|(with_reducible apply a1U a7);rfl;rfl;exact (rfl:_=some [_,_,_,_]);rfl|(first|(with_reducible apply a0p);(iterate 4 rfl);assumption|(with_reducible apply a2j);(iterate 4 rfl);rfl;rfl|(with_reducible apply a2A);(iterate 5 rfl)|(with_reducible apply t7);rfl;(first|rfl|assumption);rfl;rfl|(with_reducible apply r7);rfl;assumption;rfl;rfl))|(with_reducible apply a6l);rfl;rfl;exact heq;rfl));all_goals ((with_reducible apply j9);intro w' hS';clear hS;have hS:=hS';clear hS')))
     repeat' (first|(with_reducible apply a8 a7);rfl;rfl;rfl|refine yDn (by with_reducible constructor) ?_|(with_reducible apply f6);rfl;rfl)
     (refine k8 rfl ?_)
     refine ⟨?_,hS.sub (xj6 _)⟩;rw [hfe,a10 hf (by rw [<- hNN];exact xj5 h0),xq2];rfl
   |cons n0 r=>
    rw [xb1] at hc;have hz:decide (c=0)=false:=xj5 (by omega);have hgt:decide (0 < c)=true:=xj7 (by omega);obtain ⟨hq1,hq2⟩:=hN2 n0 r rfl
    cases hal:a0N (n0::r) with
    |false=>
     rw [hal] at hq1;subst hq1
     (focus ((with_reducible apply d8 _ _ _ (by kernel_rfl) (by kernel_rfl) hS);(repeat' ((first|(with_reducible apply i9 a7);rfl;rfl|(with_reducible apply i7);rfl;(intro wd hd;replace hd:St _ _ wd _:=hd;(apply Ld.sc a7;rfl;exact hd.blkC 1 rfl rfl));rfl|(first|((with_reducible apply a0p);(iterate 4 rfl);first|rfl|assumption)|(with_reducible apply a2j);(iterate 4 rfl);(first|rfl|assumption);rfl|(with_reducible apply a2A);(iterate 5 rfl)|(with_reducible apply t7);rfl;(first|rfl|assumption);rfl;rfl|(with_reducible apply r7);rfl;(first|rfl|assumption);rfl;rfl))));all_goals ((with_reducible apply j9);intro w' hS';clear hS;have hS:=hS';clear hS')))
     repeat' (first|(with_reducible apply a8 a7);rfl;rfl;rfl|refine yDn (by with_reducible constructor) ?_|(with_reducible apply f6);rfl;rfl)
     (refine k8 rfl ?_)
     refine ⟨?_,hS.sub (xj6 _)⟩;rw [hfe,a10 hf (by rw [<- hNN,xr0];intro h;rw [a3b.2 (a2k.1 h).same] at hal;cases hal),xq2];rfl
    |true=>
     obtain ⟨rfl,hza⟩:=hq2 hal;rw [hal] at hq1;subst hq1;by_cases hl:(dt.length:Int)=16;rotate_left
     ·have hdl:(!decide ((dt.length:Int)=16))=true:=by rw [xj5 hl];rfl
      (focus ((with_reducible apply d8 _ _ _ (by kernel_rfl) (by kernel_rfl) hS);(repeat' ((first|(with_reducible apply i9 a7);rfl;rfl|(with_reducible apply i7);rfl;(intro wd hd;replace hd:St _ _ wd _:=hd;(apply Ld.sc a7;rfl;exact hd.blkC 1 rfl rfl));rfl|(first|((with_reducible apply a0p);(iterate 4 rfl);first|rfl|assumption)|(with_reducible apply a2j);(iterate 4 rfl);assumption;rfl|(with_reducible apply a2A);(iterate 5 rfl)|(with_reducible apply t7);rfl;assumption;rfl;rfl|(with_reducible apply r7);rfl;(first|rfl|assumption);rfl;rfl))));all_goals ((with_reducible apply j9);intro w' hS';clear hS;have hS:=hS';clear hS')))
      repeat' (first|(with_reducible apply a8 a7);rfl;rfl;rfl|refine yDn (by with_reducible constructor) ?_|(with_reducible apply f6);rfl;rfl)
      (refine k8 rfl ?_)
      refine ⟨?_,hS.sub (xj6 _)⟩;rw [hfe,a10 hf (by rw [<- hNN,xr0];exact fun h=>hl (by rw [(a2k.1 h).len (by simp)];rfl)),xq2];rfl
     have hdl:(!decide ((dt.length:Int)=16))=false:=by rw [xj7 hl];rfl
     have hbase:∀ c:Bool,a1m (shs sh) ⟨dt,rf,dy,sn⟩ (n0::r)=(decide (rf=((n0::r).length:Int)/\dt.length=16) && (a0N (n0::r) && (dy||decide (some dt=a0H (shs sh) n0.2.z n0.1.page)))):=fun _=>rfl;have hbase:=hbase true;rw [hal,xj7 (⟨hr.trans hc,by omega⟩:rf=((n0::r).length:Int)/\dt.length=16),xq1,xq1] at hbase
     cases dy with
     |true=>
      (focus ((with_reducible apply d8 _ _ _ (by kernel_rfl) (by kernel_rfl) hS);(repeat' ((first|(with_reducible apply i9 a7);rfl;rfl|(with_reducible apply i7);rfl;(intro wd hd;replace hd:St _ _ wd _:=hd;(apply Ld.sc a7;rfl;exact hd.blkC 1 rfl rfl));rfl|(first|((with_reducible apply a0p);(iterate 4 rfl);first|rfl|assumption)|(with_reducible apply a2j);(iterate 4 rfl);(first|rfl|assumption);rfl|(with_reducible apply t7);rfl;assumption;rfl;rfl|(with_reducible apply r7);rfl;(first|rfl|assumption);rfl;rfl))));all_goals ((with_reducible apply j9);intro w' hS';clear hS;have hS:=hS';clear hS')))
      repeat' (first|(with_reducible apply a8 a7);rfl;rfl;rfl|(with_reducible apply j4);rfl;rfl;omega;omega;rfl|refine yDn (by with_reducible constructor) ?_|(with_reducible apply f8);rfl;rfl)
      refine a0R (i + 1) (by exact Fr.sub_of rfl) (by omega) (fun j y hj hy=>?_) (by omega) hS.drop.drop;by_cases e:j=i
      ·subst e;rw [hf] at hy
       cases hy
       exact by rw [<- hNN];exact hbase
      ·exact hall j y (by omega) hy
     |false=>
      obtain ⟨x,hx⟩:=hfn n0 xc5;rw [hx,xo5] at hbase;have hfil:=hfl x (by rw [hza];exact hx);by_cases hxd:dt=x
      ·have hdx:(!decide (dt=x))=false:=by rw [xj7 hxd];rfl
       (focus ((with_reducible apply d8 _ _ _ (by kernel_rfl) (by kernel_rfl) hS);(repeat' (first|(first|(with_reducible apply i9 a7);rfl;rfl|(with_reducible apply i7);rfl;(intro wd hd;replace hd:St _ _ wd _:=hd;(first|apply Ld.sc a7;rfl;exact hd.blkC 1 rfl rfl|apply Ld.st a7;rfl;(first|exact hd.blkR 0 rfl|exact hd.blkR 2 rfl);rfl));rfl|(first|((with_reducible apply a0p);(iterate 4 rfl);first|rfl|assumption)|(with_reducible apply a2j);(iterate 4 rfl);assumption;rfl|(with_reducible apply t7);rfl;(first|rfl|assumption);rfl;rfl|(with_reducible apply r7);rfl;(first|rfl|assumption);rfl;rfl))|(with_reducible apply y0);rfl;rfl;rfl;refine ⟨_,fun wd hd=>hfil _ (hK0.now hd),?_⟩));all_goals ((with_reducible apply j9);intro w' hS';clear hS;have hS:=hS';clear hS')))
       repeat' (first|(with_reducible apply a8 a7);rfl;rfl;rfl|(with_reducible apply j4);rfl;rfl;omega;omega;rfl|refine yDn (by with_reducible constructor) ?_|(with_reducible apply f8);rfl;assumption)
       refine a0R (i + 1) (by exact Fr.sub_of rfl) (by omega) (fun j y hj hy=>?_) (by omega) hS.drop.drop;by_cases e:j=i
       ·subst e;rw [hf] at hy
        cases hy
        exact by rw [<- hNN,hbase];exact xj7 (by rw [hxd])
       ·exact hall j y (by omega) hy
      ·have hdx:(!decide (dt=x))=true:=by rw [xj5 hxd];rfl
       (focus ((with_reducible apply d8 _ _ _ (by kernel_rfl) (by kernel_rfl) hS);(repeat' (first|(first|(with_reducible apply i9 a7);rfl;rfl|(with_reducible apply i7);rfl;(intro wd hd;replace hd:St _ _ wd _:=hd;(first|apply Ld.sc a7;rfl;exact hd.blkC 1 rfl rfl|apply Ld.st a7;rfl;(first|exact hd.blkR 0 rfl|exact hd.blkR 2 rfl);rfl));rfl|(first|((with_reducible apply a0p);(iterate 4 rfl);first|rfl|assumption)|(with_reducible apply a2j);(iterate 4 rfl);assumption;rfl|(with_reducible apply t7);rfl;(first|rfl|assumption);rfl;rfl|(with_reducible apply r7);rfl;(first|rfl|assumption);rfl;rfl))|(with_reducible apply y0);rfl;rfl;rfl;refine ⟨_,fun wd hd=>hfil _ (hK0.now hd),?_⟩));all_goals ((with_reducible apply j9);intro w' hS';clear hS;have hS:=hS';clear hS')))
       repeat' (first|(with_reducible apply a8 a7);rfl;rfl;rfl|refine yDn (by with_reducible constructor) ?_|(with_reducible apply f6);rfl;assumption)
       (refine k8 rfl ?_)
       refine ⟨?_,hS.sub (xj6 _)⟩;rw [hfe,a10 hf (by rw [<- hNN,hbase];exact xj5 (fun h=>hxd (Option.some.inj h))),xq2];rfl
  have hfb:a03 ⟨shs sh,fr,sl,sp.map (·.s),hand⟩=true:=a9R (fun j f hf=>hall j f (by have:=c9 hf;have h9:(⟨shs sh,fr,sl,sp.map (·.s),hand⟩:Ker).frames.length=fr.length:=rfl;omega) hf);clear hall;rw [hfb,xq1] at hfe
  repeat' (first|(with_reducible apply a8 a7);rfl;rfl;rfl|(with_reducible apply a9);rfl;(apply Ld.sl a7;rfl;exact hS.blkC 0 rfl rfl);rfl|refine yDn (by with_reducible constructor) ?_|(with_reducible apply b9);rfl;all_goals (intro hb hp;try (exfalso;omega)))
  refine a1A hS 10 [1] rfl sl.length (fun i=>∀ (j:Nat) f,j < i->sl[j]?=some f->a1Z f (j6 (sp.map (·.s)) 2 (j:Nat))=true) 0 rfl (xg5 _) (fun _ _ h=>absurd h (Nat.not_lt_zero _)) ?_;rintro i w3 hi hall hS';clear hS;have hS:=hS';clear hS';by_cases hlt:i < sl.length;rotate_left
  ·rw [b2z (fun j f hf=>hall j f (by have:=c9 hf;have h9:(⟨shs sh,fr,sl,sp.map (·.s),hand⟩:Ker).slots.length=sl.length:=rfl;omega) hf)] at hfe;rw [hfe]
   repeat' (first|(with_reducible apply a8 a7);rfl;rfl;rfl|(with_reducible apply a9);rfl;(apply Ld.sl a7;rfl;exact hS.blkC 0 rfl rfl);rfl|refine yDn (by with_reducible constructor) ?_|(with_reducible apply b9);rfl;all_goals (intro hb hp;try (exfalso;omega)))
   (refine k8 rfl ?_)
   exact ⟨rfl,hS.sub (xj6 _)⟩
  obtain ⟨f,hf⟩:=j5 (l:=sl) (i:=i) (by omega);have hrow:=d5 (f:=swC) hf;obtain ⟨b,off,rfl,hro⟩:=k3.at_ (i:=i) hlt;unfold swC at hrow;have hn1:=fun w1 h=>hnm w1 h 2 (i:Nat);obtain ⟨p,q,a,hN,hN2⟩:=a7U (j6 (sp.map (·.s)) 2 (i:Nat));unfold nmV at hn1;rw [hN] at hn1;unfold arC at hn1;dsimp only at hn1;obtain ⟨N,hNN⟩:∃ N,N=j6 (sp.map (·.s)) 2 (i:Nat):=⟨_,rfl⟩;rw [<- hNN] at hn1 hN2;obtain ⟨c,hc⟩:∃ c:Int,c=(N.length:Int):=⟨_,rfl⟩;rw [<- hc] at hn1;obtain ⟨dt,rf⟩:=f;dsimp only at hrow;have heq:=True.intro;by_cases hr:rf=c;rotate_left
  ·have hdr:(!decide (rf=c))=true:=by rw [xj5 hr];rfl
   repeat' (first|(with_reducible apply a8 a7);rfl;rfl;rfl|(with_reducible apply a9);rfl;(first|apply Ld.sc a7;rfl;exact hS.blkC 1 rfl rfl|apply Ld.sl a7;rfl;exact hS.blkC 0 rfl rfl|apply Ld.st a7;rfl;(first|exact hS.blkR 1 rfl|exact hS.roR (by assumption) (by assumption));rfl);rfl|(with_reducible apply l8 a7);rfl;rfl;rfl;rfl;omega;rfl|refine yDn (by with_reducible constructor) ?_|(with_reducible apply r9);(iterate 4 rfl);(first|rfl|assumption);rfl|(with_reducible apply a1e);(iterate 5 rfl)|(with_reducible apply f7);rfl;(first|rfl|assumption);rfl;rfl|(with_reducible apply f6);rfl;rfl|(with_reducible apply d7 hS a7);rfl;rfl;rfl;clear hS;intro g w' hS|(with_reducible apply b8 hS a7 (i:=0));(iterate 8 rfl);(first|exact (rfl:_=[_,_])|exact (rfl:_=[_,_,_,_]));clear hS;intro w' hS;simp only [List.set] at hS|(with_reducible apply b9);rfl;all_goals (intro hb hp;try (exfalso;omega))|(with_reducible apply d6 hS);rfl;rfl;rfl;refine ⟨_,hn1 _ (hK0.now hS),?_⟩;clear hS;intro w' hS)
   (refine k8 rfl ?_)
   refine ⟨?_,hS.sub (xj6 _)⟩;rw [hfe,a23 hf (by rw [<- hNN,xr0];exact fun h=>hr ((a2S.1 h).refs.trans hc.symm))];rfl
  have hdr:(!decide (rf=c))=false:=by rw [xj7 hr];rfl
  cases N with
  |nil=>
   have hz:decide (c=0)=true:=xj7 hc;have hgt:decide (0 < c)=false:=xj5 (by rw [hc];simp);by_cases h0:(⟨dt,rf⟩:Sw)=sw0
   ·have heq:=b28 (⟨dt,rf⟩:Sw) sw0;rw [xj7 h0] at heq
    repeat' (first|(with_reducible apply a8 a7);rfl;rfl;rfl|(with_reducible apply a9);rfl;(first|apply Ld.sc a7;rfl;exact hS.blkC 1 rfl rfl|apply Ld.sl a7;rfl;exact hS.blkC 0 rfl rfl|apply Ld.st a7;rfl;(first|exact hS.blkR 1 rfl|exact hS.roR (by assumption) (by assumption));rfl);rfl|(with_reducible apply l8 a7);rfl;rfl;rfl;rfl;omega;rfl|(with_reducible apply j4);rfl;rfl;omega;omega;rfl|(with_reducible apply l4 a7);rfl;rfl;exact (rfl:_=some [_,_]);rfl|refine yDn (by with_reducible constructor) ?_|((with_reducible apply k6);(iterate 4 rfl);first|rfl|assumption)|(with_reducible apply r9);(iterate 4 rfl);assumption;rfl|(with_reducible apply a1e);(iterate 5 rfl)|(with_reducible apply f7);rfl;assumption;rfl;rfl|(with_reducible apply d9);rfl;(first|rfl|assumption);rfl;rfl|(with_reducible apply f8);rfl;rfl|(with_reducible apply d7 hS a7);rfl;rfl;rfl;clear hS;intro g w' hS|(with_reducible apply b8 hS a7 (i:=0));(iterate 8 rfl);(first|exact (rfl:_=[_,_])|exact (rfl:_=[_,_,_,_]));clear hS;intro w' hS;simp only [List.set] at hS|(with_reducible apply b9);rfl;all_goals (intro hb hp;try (exfalso;omega))|(with_reducible apply d6 hS);rfl;rfl;rfl;refine ⟨_,hn1 _ (hK0.now hS),?_⟩;clear hS;intro w' hS|(with_reducible apply b1a);rfl;rfl;exact heq;rfl)
    refine a0R (i + 1) (by exact Fr.sub_of rfl) (by omega) (fun j y hj hy=>?_) (by omega) hS.drop.drop;by_cases e:j=i
    ·subst e;rw [hf] at hy
     cases hy
     exact by rw [<- hNN];exact xj7 h0
    ·exact hall j y (by omega) hy
   ·have heq:=b28 (⟨dt,rf⟩:Sw) sw0;rw [xj5 h0] at heq
    repeat' (first|(with_reducible apply a8 a7);rfl;rfl;rfl|(with_reducible apply a9);rfl;(first|apply Ld.sc a7;rfl;exact hS.blkC 1 rfl rfl|apply Ld.sl a7;rfl;exact hS.blkC 0 rfl rfl|apply Ld.st a7;rfl;(first|exact hS.blkR 1 rfl|exact hS.roR (by assumption) (by assumption));rfl);rfl|(with_reducible apply l8 a7);rfl;rfl;rfl;rfl;omega;rfl|(with_reducible apply l4 a7);rfl;rfl;exact (rfl:_=some [_,_]);rfl|refine yDn (by with_reducible constructor) ?_|(with_reducible apply k6);(iterate 4 rfl);assumption|(with_reducible apply r9);(iterate 4 rfl);rfl;rfl|(with_reducible apply a1e);(iterate 5 rfl)|(with_reducible apply f7);rfl;(first|rfl|assumption);rfl;rfl|(with_reducible apply d9);rfl;assumption;rfl;rfl|(with_reducible apply f6);rfl;rfl|(with_reducible apply d7 hS a7);rfl;rfl;rfl;clear hS;intro g w' hS|(with_reducible apply b8 hS a7 (i:=0));(iterate 8 rfl);(first|exact (rfl:_=[_,_])|exact (rfl:_=[_,_,_,_]));clear hS;intro w' hS;simp only [List.set] at hS|(with_reducible apply b9);rfl;all_goals (intro hb hp;try (exfalso;omega))|(with_reducible apply d6 hS);rfl;rfl;rfl;refine ⟨_,hn1 _ (hK0.now hS),?_⟩;clear hS;intro w' hS|(with_reducible apply b1a);rfl;rfl;exact heq;rfl)
    (refine k8 rfl ?_)
    refine ⟨?_,hS.sub (xj6 _)⟩;rw [hfe,a23 hf (by rw [<- hNN];exact xj5 h0)];rfl
  |cons n0 r=>
   rw [xb1] at hc;have hz:decide (c=0)=false:=xj5 (by omega);have hgt:decide (0 < c)=true:=xj7 (by omega);obtain ⟨hq1,hq2⟩:=hN2 n0 r rfl
   cases hal:a0N (n0::r) with
   |false=>
    rw [hal] at hq1;subst hq1
    repeat' (first|(with_reducible apply a8 a7);rfl;rfl;rfl|(with_reducible apply a9);rfl;(first|apply Ld.sc a7;rfl;exact hS.blkC 1 rfl rfl|apply Ld.sl a7;rfl;exact hS.blkC 0 rfl rfl|apply Ld.st a7;rfl;(first|exact hS.blkR 1 rfl|exact hS.roR (by assumption) (by assumption));rfl);rfl|(with_reducible apply l8 a7);rfl;rfl;rfl;rfl;omega;rfl|refine yDn (by with_reducible constructor) ?_|((with_reducible apply k6);(iterate 4 rfl);first|rfl|assumption)|(with_reducible apply r9);(iterate 4 rfl);(first|rfl|assumption);rfl|(with_reducible apply f7);rfl;(first|rfl|assumption);rfl;rfl|(with_reducible apply d9);rfl;(first|rfl|assumption);rfl;rfl|(with_reducible apply f6);rfl;rfl|(with_reducible apply d7 hS a7);rfl;rfl;rfl;clear hS;intro g w' hS|(with_reducible apply b8 hS a7 (i:=0));(iterate 8 rfl);(first|exact (rfl:_=[_,_])|exact (rfl:_=[_,_,_,_]));clear hS;intro w' hS;simp only [List.set] at hS|(with_reducible apply b9);rfl;all_goals (intro hb hp;try (exfalso;omega))|(with_reducible apply d6 hS);rfl;rfl;rfl;refine ⟨_,hn1 _ (hK0.now hS),?_⟩;clear hS;intro w' hS)
    (refine k8 rfl ?_)
    refine ⟨?_,hS.sub (xj6 _)⟩;rw [hfe,a23 hf (by rw [<- hNN,xr0];intro h;rw [a3b.2 (a2S.1 h).same] at hal;cases hal)];rfl
   |true=>
    rw [hal] at hq1;subst hq1;by_cases hl:(dt.length:Int)=16;rotate_left
    ·have hdl:(!decide ((dt.length:Int)=16))=true:=by rw [xj5 hl];rfl
     repeat' (first|(with_reducible apply a8 a7);rfl;rfl;rfl|(with_reducible apply a9);rfl;(first|apply Ld.sc a7;rfl;exact hS.blkC 1 rfl rfl|apply Ld.sl a7;rfl;exact hS.blkC 0 rfl rfl|apply Ld.st a7;rfl;(first|exact hS.blkR 1 rfl|exact hS.roR (by assumption) (by assumption));rfl);rfl|(with_reducible apply l8 a7);rfl;rfl;rfl;rfl;omega;rfl|refine yDn (by with_reducible constructor) ?_|((with_reducible apply k6);(iterate 4 rfl);first|rfl|assumption)|(with_reducible apply r9);(iterate 4 rfl);assumption;rfl|(with_reducible apply f7);rfl;assumption;rfl;rfl|(with_reducible apply d9);rfl;(first|rfl|assumption);rfl;rfl|(with_reducible apply f6);rfl;assumption|(with_reducible apply d7 hS a7);rfl;rfl;rfl;clear hS;intro g w' hS|(with_reducible apply b8 hS a7 (i:=0));(iterate 8 rfl);(first|exact (rfl:_=[_,_])|exact (rfl:_=[_,_,_,_]));clear hS;intro w' hS;simp only [List.set] at hS|(with_reducible apply b9);rfl;all_goals (intro hb hp;try (exfalso;omega))|(with_reducible apply d6 hS);rfl;rfl;rfl;refine ⟨_,hn1 _ (hK0.now hS),?_⟩;clear hS;intro w' hS)
     (refine k8 rfl ?_)
     refine ⟨?_,hS.sub (xj6 _)⟩;rw [hfe,a23 hf (by rw [<- hNN,xr0];exact fun h=>hl (by rw [(a2S.1 h).len (by simp)];rfl))];rfl
    have hdl:(!decide ((dt.length:Int)=16))=false:=by rw [xj7 hl];rfl
    have hbase:a1Z ⟨dt,rf⟩ (n0::r)=(decide (rf=((n0::r).length:Int)/\dt.length=16) && a0N (n0::r)):=rfl;rw [hal,xj7 (⟨hr.trans hc,by omega⟩:rf=((n0::r).length:Int)/\dt.length=16),xq1] at hbase
    repeat' (first|(with_reducible apply a8 a7);rfl;rfl;rfl|(with_reducible apply a9);rfl;(first|apply Ld.sc a7;rfl;exact hS.blkC 1 rfl rfl|apply Ld.sl a7;rfl;exact hS.blkC 0 rfl rfl|apply Ld.st a7;rfl;(first|exact hS.blkR 1 rfl|exact hS.roR (by assumption) (by assumption));rfl);rfl|(with_reducible apply l8 a7);rfl;rfl;rfl;rfl;omega;rfl|(with_reducible apply j4);rfl;rfl;omega;omega;rfl|refine yDn (by with_reducible constructor) ?_|((with_reducible apply k6);(iterate 4 rfl);first|rfl|assumption)|(with_reducible apply r9);(iterate 4 rfl);assumption;rfl|(with_reducible apply f7);rfl;assumption;rfl;rfl|(with_reducible apply d9);rfl;(first|rfl|assumption);rfl;rfl|(with_reducible apply f8);rfl;assumption|(with_reducible apply d7 hS a7);rfl;rfl;rfl;clear hS;intro g w' hS|(with_reducible apply b8 hS a7 (i:=0));(iterate 8 rfl);(first|exact (rfl:_=[_,_])|exact (rfl:_=[_,_,_,_]));clear hS;intro w' hS;simp only [List.set] at hS|(with_reducible apply b9);rfl;all_goals (intro hb hp;try (exfalso;omega))|(with_reducible apply d6 hS);rfl;rfl;rfl;refine ⟨_,hn1 _ (hK0.now hS),?_⟩;clear hS;intro w' hS)
    refine a0R (i + 1) (by exact Fr.sub_of rfl) (by omega) (fun j y hj hy=>?_) (by omega) hS.drop.drop;by_cases e:j=i
    ·subst e;rw [hf] at hy
     cases hy
     exact by rw [<- hNN];exact hbase
    ·exact hall j y (by omega) hy
theorem a6J:∀ {l:List Int} {lo hi:Int},Rises l->(∀ p ∈ l,lo<=p/\p < hi)->lo<=hi->(l.length:Int)<=hi - lo
 |[],lo,hi,_,_,h=>by simp;omega
 |p::l,lo,hi,hr,hp,h=>by
  have h1:=hp p xc5;have ih:=a6J (l:=l) (lo:=p + 1) (hi:=hi) (xd7.1 hr).2 (fun q hq=>⟨by have:=(xd7.1 hr).1 q hq;omega,(hp q (xc6 _ hq)).2⟩) (by omega);rw [xb1];omega
theorem a41 {α:Type} (p:α->Bool):∀ (l:List α),l.length=(l.filter p).length + (l.filter fun x=>!p x).length
 |[]=>rfl
 |x::l=>by
  have ih:=a41 p l
  cases hx:p x with
  |true=>
   rw [xl1 hx,xl3 (by simp [hx]),xb1,xb1];omega
  |false=>
   rw [xl3 (by simp [hx]),xl1 (by simp [hx]),xb1,xb1];omega
theorem a5k {α:Type} (p q:α->Bool):∀ (l:List α),(∀ x ∈ l,¬(p x=true/\q x=true))->(l.filter fun x=>p x||q x).length=(l.filter p).length + (l.filter q).length
 |[],_=>rfl
 |x::l,h=>by
  have ih:=a5k p q l (fun y hy=>h y (xc6 _ hy));have hx:=h x xc5
  cases h1:p x with
  |true=>
   have h2:q x=false:=by simpa [h1] using hx
   rw [xl1 (by simp [h1]),xl1 h1,xl3 (by simp [h2]),xb1,xb1];omega
  |false=>
   cases h2:q x with
   |true=>
    rw [xl1 (by simp [h2]),xl3 (by simp [h1]),xl1 h2,xb1,xb1];omega
   |false=>
    rw [xl3 (by simp [h1,h2]),xl3 (by simp [h1]),xl3 (by simp [h2])];omega
theorem a6f:∀ {A:List Ar} {e0:Int},v9 e0 A->∀ {l:List Int},Rises l->(∀ p ∈ l,(o9 A p).isSome=true)->(l.length:Int)<=a0r A
 |[],_,_,l,_,h=>by
  cases l with
  |nil=>simp [a0r]
  |cons p l=>have:=h p xc5;simp [o9] at this
 |a::A,e0,hA,l,hr,h=>by
  obtain ⟨h1,h2,h3⟩:=hA;have hok:=h1;unfold Ar.ok at hok;have hlt:∀ b ∈ A,a.fin<=b.pg:=fun b hb=>(a45 h3 b hb).1;rw [a41 (fun p=>decide (p < a.fin)) l];have c1:=a6J (l:=l.filter fun p=>decide (p < a.fin)) (lo:=a.pg) (hi:=a.fin) (hr.sublist (List.filter_sublist)) (fun p hp=>by
   rw [xj1,xb3] at hp;refine ⟨?_,hp.2⟩;have hs:=h p hp.1;unfold o9 at hs;by_cases hb:z8 p a=true
   ·unfold z8 at hb;rw [xb3] at hb;exact hb.1
   ·rw [xq8 hb] at hs;obtain ⟨b,hbb⟩:=xi3.1 hs;have h4:=hlt b (xi2 hbb);have h5:=xi4 hbb;unfold z8 at h5;rw [xb3] at h5;omega) (by unfold Ar.fin;omega)
  have c2:=a6f h3 (l:=l.filter fun p=>!decide (p < a.fin)) (hr.sublist (List.filter_sublist)) (fun p hp=>by
   rw [xj1,xc8,xq3] at hp;have hs:=h p hp.1;unfold o9 at hs |-;rw [xq8] at hs
   ·exact hs
   ·unfold z8;rw [xb3];omega)
  unfold Ar.fin at c1;show _<=a.n + a0r A;unfold Ar.fin at c2 |-
  push_cast
  omega
theorem b3D {sh:List Sh} {nf ns:Int} {s:Sc} (h:b0i sh nf ns s):(s.entries.length:Int)<=a0r s.areas:=by
 have:=a6f (v6.1 h.ar).2.1 h.rises (fun p hp=>by
  obtain ⟨e,he,rfl⟩:=xj0.1 hp;exact (h.ents e he).1)
 unfold j8 at this
 rwa [xj4] at this
theorem a6D {sh:List Sh} {nf ns:Int}:∀ {L:List Sc},(∀ s ∈ L,b0i sh nf ns s)->((a0I L).length:Int)<=a0g L
 |[],_=>by simp [a0I,a0g]
 |s::L,h=>by
  have h1:=b3D (h s xc5);have h2:=a6D (L:=L) (fun x hx=>h x (xc6 _ hx));have e1:a0I (s::L)=s.entries.map (a0J s)++a0I L:=by unfold a0I;simp
  have e2:a0g (s::L)=a0r s.areas + a0g L:=by unfold a0g;simp
  rw [e1,e2,xe9,xj4];omega
theorem a9o (X:List Nm):∀ (n:Nat),(∀ i:Nat,i < n->X.filter (fun (m:Nm)=>decide (m.1.kind=2/\m.1.at_=((i:Nat):Int)))≠[])->n<=(X.filter fun (m:Nm)=>decide (m.1.kind=2/\0<=m.1.at_/\m.1.at_ < ((n:Nat):Int))).length
 |0,_=>xg5 _
 |n + 1,h=>by
  have ih:=a9o X n (fun i hi=>h i (by omega));have hn:=xa3.2 (h n (by omega));have e:(X.filter fun (m:Nm)=>decide (m.1.kind=2/\0<=m.1.at_/\m.1.at_ < ((n + 1:Nat):Int)))=X.filter (fun (m:Nm)=>(decide (m.1.kind=2/\0<=m.1.at_/\m.1.at_ < ((n:Nat):Int)))||decide (m.1.kind=2/\m.1.at_=((n:Nat):Int))):=by
   refine congrArg (fun p=>List.filter p X) (funext fun m=>?_);rw [xc9,xo4,xb3,xb3,xb3];omega
  rw [e,a5k _ _ _ (fun x _=>by rw [xb3,xb3];omega)];omega
theorem a95 {α:Type} (p q:α->Bool) (l:List α) (h:∀ x ∈ l,¬(p x=true/\q x=true)):(l.filter p).length + (l.filter q).length<=l.length:=by
 rw [<- a5k p q l h];exact xn7 _ _
theorem a7v {K:Ker} (h:Right K) {f:Nat} (hf:f < K.frames.length) (hr:(j7 K.frames f).refs≠0):∃ t,a16 K.slots=some t:=by
 cases hfs:a16 K.slots with
 |some t=>exact ⟨t,rfl⟩
 |none=>
  exfalso;have hno:=b0E hfs;have hroom:=a6D (L:=K.spaces) (fun s hs=>a08.1 (h.spaces s hs));have h1:=h.room;have hc:=a9o (a0I K.spaces) K.slots.length (fun i hi=>by
   rw [a1c];intro e;have:=h.sl i _ (xe1 hi);rw [e] at this;exact hno _ (xe2 hi) this.refs)
  have hff:=xe1 hf;have h2:=h.fr f _ hff;rw [m8 hff] at hr;have h3:(j6 K.spaces 1 (f:Nat)).length≠0:=fun e=>hr (by rw [h2.refs,e];rfl);rw [<- a1c] at h3;have h4:=a95 (fun (m:Nm)=>decide (m.1.kind=2/\0<=m.1.at_/\m.1.at_ < ((K.slots.length:Nat):Int))) (fun (n:Nm)=>decide (n.1.kind=1/\n.1.at_=((f:Nat):Int))) (a0I K.spaces) (fun x _=>by rw [xb3,xb3];omega);omega
def a7q (l:List Fm):Nat:=l.countP fun f=>f.seen
def a71 (n h:Nat) (held:List Nat):Nat:=if h ∈ held then (if v7 n h ∈ held then 2 else 1) else 0
def a0O (fr:List Fm) (h:Nat) (held:List Nat):Nat:=3 * a7q fr + a71 fr.length h held
theorem a6h {n h:Nat} (hn:h < n):v7 n h < n:=by unfold v7;split <;> omega
theorem a2i (n h:Nat) (held:List Nat):a71 n h held<=2:=by unfold a71;split <;> (try split) <;> omega
theorem a4l {n h:Nat} {held:List Nat} (h3:3<=n) (hn:h < n) (hl:held.length<=2) (hh:h ∈ held):a71 n (v7 n h) held < a71 n h held:=by
 unfold a71;rw [xf0 hh];by_cases h1:v7 n h ∈ held
 ·rw [xf0 h1,xf0 h1,xf1]
  ·omega
  ·intro h2;have hnd:[h,v7 n h,v7 n (v7 n h)].Nodup:=by
    have e1:h≠v7 n h:=by unfold v7;split <;> omega
    have e2:h≠v7 n (v7 n h):=by unfold v7;split <;> split <;> omega
    have e3:v7 n h≠v7 n (v7 n h):=by unfold v7;split <;> split <;> omega
    simp [e1,e2,e3]
   have:=a5m hnd (m:=held) (fun x hx=>by
    rcases xc4.1 hx with rfl|hx
    ·exact hh
    rcases xc4.1 hx with rfl|hx
    ·exact h1
    rcases xc4.1 hx with rfl|hx
    ·exact h2
    ·cases hx)
   simp at this;omega
 ·rw [xf1 h1,xf1 h1];omega
theorem a3S:∀ {l:List Fm} {i:Nat} {f x:Fm},l[i]?=some f->f.seen=true->x.seen=false->a7q (l.set i x) + 1=a7q l
 |[],_,_,_,h,_,_=>by simp at h
 |a::l,0,f,x,h,hf,hx=>by
  simp at h;subst h;unfold a7q;rw [List.set_cons_zero,List.countP_cons_of_pos hf,List.countP_cons_of_neg (by simp [hx])]
 |a::l,i + 1,f,x,h,hf,hx=>by
  have ih:=a3S (l:=l) (i:=i) (by simpa using h) hf hx;unfold a7q at ih |-;rw [List.set_cons_succ,List.countP_cons,List.countP_cons];omega
def a92 (a b:Fm):Prop:=a.data=b.data/\a.refs=b.refs/\a.dirty=b.dirty
theorem a2t {l:List Fm} {i j:Nat} {x:Fm}:j7 (l.set i x) j=if i=j/\j < l.length then x else j7 l j:=by
 unfold j7;rw [xe0];by_cases e:i=j
 ·subst e;rw [xf0 rfl];by_cases h:i < l.length
  ·rw [xf0 h,xf0 ⟨rfl,h⟩];rfl
  ·rw [xf1 h,xf1 (fun hh=>h hh.2),xh9 (by omega)]
 ·rw [xf1 e,xf1 (fun hh=>e hh.1)]
theorem a6e {l:List Sw} {i j:Nat} {x:Sw}:a0K (l.set i x) j=if i=j/\j < l.length then x else a0K l j:=by
 unfold a0K;rw [xe0];by_cases e:i=j
 ·subst e;rw [xf0 rfl];by_cases h:i < l.length
  ·rw [xf0 h,xf0 ⟨rfl,h⟩];rfl
  ·rw [xf1 h,xf1 (fun hh=>h hh.2),xh9 (by omega)]
 ·rw [xf1 e,xf1 (fun hh=>e hh.1)]
theorem a6v {held:List Nat} (hl:held.length<=2):∀ (k:Nat) {fr:List Fm} {h:Nat},3<=fr.length->h < fr.length->a0O fr h held < k ->
  (a0n k fr h held).2.2 < fr.length/\(a0n k fr h held).2.2 ∉ held/\(a0n k fr h held).2.1 < fr.length/\(a0n k fr h held).1.length=fr.length/\(∀ i,a92 (j7 (a0n k fr h held).1 i) (j7 fr i))/\∀ i ∈ held,j7 (a0n k fr h held).1 i=j7 fr i
 |0,_,_,_,_,hm=>absurd hm (Nat.not_lt_zero _)
 |k + 1,fr,h,h3,hn,hm=>by
  unfold a0n;by_cases hh:h ∈ held
  ·rw [xf0 hh];have hd:=a4l h3 hn hl hh;exact a6v hl k h3 (a6h hn) (by unfold a0O at hm |-;omega)
  ·rw [xf1 hh];have hget:=xe1 hn
   cases hs:(j7 fr h).seen with
   |false=>
    rw [xf1 (by simp)];exact ⟨hn,hh,a6h hn,rfl,fun i=>⟨rfl,rfl,rfl⟩,fun i _=>rfl⟩
   |true=>
    rw [xf0 rfl];have hse:=a3S (x:=⟨(j7 fr h).data,(j7 fr h).refs,(j7 fr h).dirty,false⟩) hget (by rw [<- m8 hget];exact hs) rfl;have hd2:=a2i fr.length (v7 fr.length h) held;have hlen:(fr.set h ⟨(j7 fr h).data,(j7 fr h).refs,(j7 fr h).dirty,false⟩).length=fr.length:=by simp
    have ih:=a6v hl k (fr:=fr.set h ⟨(j7 fr h).data,(j7 fr h).refs,(j7 fr h).dirty,false⟩) (h:=v7 fr.length h) (by rw [hlen];exact h3) (by rw [hlen];exact a6h hn) (by unfold a0O at hm |-;rw [hlen];omega);rw [hlen] at ih;obtain ⟨i1,i2,i3,i4,i5,i6⟩:=ih;refine ⟨i1,i2,i3,i4,fun i=>?_,fun i hi=>?_⟩
    ·have h5:=i5 i;rw [a2t] at h5;by_cases e:h=i/\i < fr.length
     ·rw [xf0 e] at h5;obtain ⟨rfl,-⟩:=e;exact h5
     ·rw [xf1 e] at h5;exact h5
    ·rw [i6 i hi,a2t,xf1];rintro ⟨rfl,-⟩;exact hh hi
theorem a5h {fr:List Fm} (h64:fr.length<=64) (h:Nat) (held:List Nat):a0O fr h held < 5000:=by
 unfold a0O a7q;have h1:=List.countP_le_length (p:=fun (f:Fm)=>f.seen) (l:=fr);have h2:=a2i fr.length h held;omega
theorem FmOk.alike {sh:List Sh} {f g:Fm} {N:List Nm} (h:FmOk sh f N) (ha:a92 g f) (hr:f.refs≠0):FmOk sh g N:=by
 obtain ⟨a1,a2,a3⟩:=ha;refine ⟨by rw [a2];exact h.refs,fun e=>absurd (by rw [h.refs,e];rfl) hr,by rw [a1];exact h.len,h.same,fun n hn=>by rw [a1,a3];exact h.data n hn⟩
theorem a8o {K:Ker} (h:Right K) {held:List Nat} (hl:held.length<=2) (hfree:a2L K.frames=none) :
  Right ⟨K.sheets,(a0i K held).1,K.slots,K.spaces,((a0i K held).2.1:Nat)⟩/\(a0i K held).2.2 < K.frames.length/\(a0i K held).2.2 ∉ held/\(∀ i,a92 (j7 (a0i K held).1 i) (j7 K.frames i))/\(∀ i ∈ held,j7 (a0i K held).1 i=j7 K.frames i)/\(a0i K held).1.length=K.frames.length:=by
 have hh:=h.hand;have hc:=h.cnt;obtain ⟨c1,c2,c3,c4,c5,c6⟩:=a6v hl 5000 (fr:=K.frames) (h:=K.hand.toNat) hc.1 (by omega) (a5h hc.2.1 _ _);refine ⟨⟨by dsimp only [a0i];rw [c4];exact hc,h.rise,?_,?_,h.room,fun i g hg=>?_,h.sl⟩,c1,c2,c5,c6,c4⟩
 ·show 0<=(((a0n 5000 K.frames K.hand.toNat held).2.1:Nat):Int)/\(((a0n 5000 K.frames K.hand.toNat held).2.1:Nat):Int) < ((a0n 5000 K.frames K.hand.toNat held).1.length:Int);rw [c4];omega
 ·intro s hs;show t3 K.sheets ((a0n 5000 K.frames K.hand.toNat held).1.length:Int) K.slots.length s=true;rw [c4];exact h.spaces s hs
 ·replace hg:(a0n 5000 K.frames K.hand.toNat held).1[i]?=some g:=hg;have hil:i < K.frames.length:=by have:=c9 hg;omega
  have hig:=xe1 hil;have:=c5 i;rw [m8 hg,m8 hig] at this;exact (h.fr i _ hig).alike this (a4m hfree _ (xe2 hil))
theorem y6 {l:List En} {p:Int} {e:En} (h:k7 l p=some e):e ∈ l/\e.page=p:=⟨xi2 h,by have:=xi4 h;simpa using this⟩
theorem a3B {l:List En} (hr:Rises (j8 l)) {e:En} (h:e ∈ l):k7 l e.page=some e:=by
 induction l with
 |nil=>cases h
 |cons a l ih=>
  unfold k7;have hp:=xd7.1 hr;rcases xc4.1 h with rfl|h
  ·rw [List.find?_cons_of_pos (by simp)]
  ·have:a.page < e.page:=hp.1 e.page (xj0.2 ⟨e,h,rfl⟩);rw [xq8 (by simp;omega)];exact ih hp.2 h
theorem a1p {l:List En} {p:Int}:k7 l p=none ↔ p ∉ j8 l:=by
 unfold k7 j8;rw [xn8,xj0];constructor
 ·rintro h ⟨e,he,rfl⟩;exact h e he (by simp)
 ·intro h e he hp;exact h ⟨e,he,by simpa using hp⟩
theorem a5A {f:Int} {t:Option Int} {e x:En} (h:n9 f t e=some x):x.page=e.page:=by
 unfold n9 at h
 split at h
 ·cases t with
  |none=>cases h
  |some s=>cases h;rfl
 ·cases h;rfl
theorem a9N {f:Int} {t:Option Int} {l:List En} (hr:Rises (j8 l)) (p:Int):k7 (l.filterMap (n9 f t)) p=(k7 l p).bind (n9 f t):=by
 have hr2:=hr.sublist (a2y f t l)
 cases h:k7 l p with
 |none=>
  rw [a1p] at h;exact a1p.2 fun hp=>h ((a2y f t l).subset hp)
 |some e=>
  obtain ⟨he,rfl⟩:=y6 h;show _=n9 f t e
  cases hx:n9 f t e with
  |some x=>
   have:=a3B hr2 (List.mem_filterMap.2 ⟨e,he,hx⟩)
   rwa [a5A hx] at this
  |none=>
   rw [a1p];intro hp;obtain ⟨y,hy,hyp⟩:=xj0.1 hp;obtain ⟨z,hz,hzy⟩:=List.mem_filterMap.1 hy;have h1:=a5A hzy;have h2:=a3B hr hz;rw [<- h1,hyp,h] at h2
   cases h2
   rw [hx] at hzy
   cases hzy
theorem a00 {K:Ker} {sp:Nat} {s:Sc} (h:K.spaces[sp]?=some s):a0l K sp=s:=by unfold a0l;rw [h];rfl
theorem a5b {K:Ker} {sp:Nat} (h:K.spaces[sp]?=none):a0l K sp=sc0:=by unfold a0l;rw [h];rfl
theorem a3a {K:Ker} {sp:Nat} {s:Sc} {e:En} (h:K.spaces[sp]?=some s) (he:e ∈ s.entries):a0J s e ∈ j6 K.spaces e.kind e.at_:=by
 rw [a0u,xj2];refine ⟨s,xd0 h,?_⟩;unfold nm1;exact xj0.2 ⟨e,xj1.2 ⟨he,by simp⟩,rfl⟩
theorem b4x {K:Ker} {sp:Nat} {s:Sc} (h:K.spaces[sp]?=some s) (e:En):(a0J s e).2.z=zAt K sp e.page:=by
 unfold zAt m6 a0J;rw [a00 h]
theorem Right.ent {K:Ker} (h:Right K) {sp:Nat} {s:Sc} {e:En} (hs:K.spaces[sp]?=some s) (he:e ∈ s.entries) :
  (o9 s.areas e.page).isSome=true/\((e.kind=1/\(∃ f:Nat,e.at_=(f:Nat)/\f < K.frames.length))\/(e.kind=2/\∃ f:Nat,e.at_=(f:Nat)/\f < K.slots.length)):=by
 have h1:=(a08.1 (h.spaces s (xd0 hs))).ents e he;refine ⟨h1.1,?_⟩;rcases h1.2 with ⟨a,b,c⟩|⟨a,b,c⟩
 ·exact xd6 ⟨a,e.at_.toNat,by omega,by omega⟩
 ·exact xd3 ⟨a,e.at_.toNat,by omega,by omega⟩
structure SameP (K K':Ker):Prop where
 sheets:K'.sheets=K.sheets
 nfr:K'.frames.length=K.frames.length
 nsl:K'.slots.length=K.slots.length
 nsp:K'.spaces.length=K.spaces.length
 ar:∀ sp,m6 K' sp=m6 K sp
 live:∀ sp,(a0l K' sp).live=(a0l K sp).live
 peek:∀ sp p,a0q K' sp p=a0q K sp p
theorem SameP.refl (K:Ker):SameP K K:=⟨rfl,rfl,rfl,rfl,fun _=>rfl,fun _=>rfl,fun _ _=>rfl⟩
theorem SameP.trans {K K' K2:Ker} (h:SameP K K') (h2:SameP K' K2):SameP K K2:=⟨h2.sheets.trans h.sheets,h2.nfr.trans h.nfr,h2.nsl.trans h.nsl,h2.nsp.trans h.nsp,fun s=>(h2.ar s).trans (h.ar s),fun s=>(h2.live s).trans (h.live s),fun s p=>(h2.peek s p).trans (h.peek s p)⟩
theorem a3v {K K':Ker} {sp:Nat} (hs:K'.sheets=K.sheets) (ha:m6 K' sp=m6 K sp) (p:Int):a1a K' sp p=a1a K sp p:=by
 unfold a1a zAt;rw [hs,ha]
theorem a4T {K K':Ker} {g:Sc->Sc} (h:K'.spaces=K.spaces.map g) (sp:Nat):(K.spaces[sp]?=none/\a0l K' sp=sc0/\a0l K sp=sc0)\/∃ s,K.spaces[sp]?=some s/\a0l K sp=s/\a0l K' sp=g s:=by
 unfold a0l;rw [h,xh7]
 cases hk:K.spaces[sp]? with
 |none=>exact xd6 ⟨rfl,rfl,rfl⟩
 |some s=>exact xd3 ⟨s,rfl,rfl,rfl⟩
theorem a9x {K:Ker} (h:Right K) {f:Nat} (hf:f < K.frames.length) (hfree:(j7 K.frames f).dirty=true->∃ t,a16 K.slots=some t) :
  SameP K (s7 K f)/\j7 (s7 K f).frames f=fm0/\j6 (s7 K f).spaces 1 (f:Nat)=[]/\(∀ i,i≠f->j7 (s7 K f).frames i=j7 K.frames i)/\(∀ i,(a0K K.slots i).refs≠0->a0K (s7 K f).slots i=a0K K.slots i)/\(∀ sp p,k7 (j3 (s7 K f) sp) p=(k7 (j3 K sp) p).bind (n9 (f:Nat) ((a0t K f).map fun (t:Nat)=>(t:Int)))):=by
 have hff:=xe1 hf;have hfo:=h.fr f _ hff;have hent:∀ sp p,k7 (j3 (s7 K f) sp) p=(k7 (j3 K sp) p).bind (n9 (f:Nat) ((a0t K f).map fun (t:Nat)=>(t:Int))):=fun sp p=>by
  unfold j3;rcases a4T (K':=s7 K f) (K:=K) (g:=x9 (f:Nat) ((a0t K f).map fun (t:Nat)=>(t:Int))) rfl sp with ⟨-,h1,h2⟩|⟨s,hs,h1,h2⟩
  ·rw [h1,h2];rfl
  ·rw [h1,h2];exact a9N (a08.1 (h.spaces s (xd0 hs))).rises p
 have harea:∀ sp,m6 (s7 K f) sp=m6 K sp:=fun sp=>by
  unfold m6;rcases a4T (K':=s7 K f) (K:=K) (g:=x9 (f:Nat) ((a0t K f).map fun (t:Nat)=>(t:Int))) rfl sp with ⟨-,h1,h2⟩|⟨s,hs,h1,h2⟩ <;> rw [h1,h2] <;> rfl
 have hlive:∀ sp,(a0l (s7 K f) sp).live=(a0l K sp).live:=fun sp=>by
  rcases a4T (K':=s7 K f) (K:=K) (g:=x9 (f:Nat) ((a0t K f).map fun (t:Nat)=>(t:Int))) rfl sp with ⟨-,h1,h2⟩|⟨s,hs,h1,h2⟩ <;> rw [h1,h2] <;> rfl
 have hfr:∀ i,j7 (s7 K f).frames i=if f=i then fm0 else j7 K.frames i:=fun i=>by
  show j7 (K.frames.set f fm0) i=_;rw [a2t];by_cases e:f=i
  ·subst e;rw [xf0 ⟨rfl,hf⟩,xf0 rfl]
  ·rw [xf1 (fun hh=>e hh.1),xf1 e]
 have hT:∀ t,a0t K f=some t->(j7 K.frames f).dirty=true/\(a0K K.slots t).refs=0/\t < K.slots.length/\j6 K.spaces 2 (t:Nat)=[]/\(s7 K f).slots=K.slots.set t ⟨(j7 K.frames f).data,(j7 K.frames f).refs⟩:=fun t ht=>by
  have ht0:=ht;unfold a0t at ht
  cases hd:(j7 K.frames f).dirty with
  |false=>rw [hd] at ht;cases ht
  |true=>
   obtain ⟨u,hu⟩:=hfree hd;rw [hd,hu] at ht;obtain rfl:u=t:=by simpa using ht
   obtain ⟨s0,hs0,hs1⟩:=a2m hu;refine ⟨rfl,by rw [a1z hs0];exact hs1,c9 hs0,((h.sl u s0 hs0).free hs1).1,?_⟩;unfold s7;rw [ht0]
 have hT0:a0t K f=none->(j7 K.frames f).dirty=false/\(s7 K f).slots=K.slots:=fun ht=>by
  have ht0:=ht;unfold a0t at ht
  cases hd:(j7 K.frames f).dirty with
  |false=>exact ⟨rfl,by unfold s7;rw [ht0]⟩
  |true=>rw [hd] at ht;cases ht
 have hsw:∀ i,(a0K K.slots i).refs≠0->a0K (s7 K f).slots i=a0K K.slots i:=fun i hi=>by
  cases ht:a0t K f with
  |none=>rw [(hT0 ht).2]
  |some t=>
   obtain ⟨-,h2,-,-,h5⟩:=hT t ht;rw [h5,a6e,xf1];rintro ⟨rfl,-⟩;exact hi h2
 refine ⟨⟨rfl,by show (K.frames.set f fm0).length=_;simp,?_,by show (K.spaces.map _).length=_;simp,harea,hlive,fun sp p=>?_⟩,by rw [hfr,xf0 rfl],a5M _,fun i hi=>by rw [hfr,xf1 (Ne.symm hi)],hsw,hent⟩
 ·cases ht:a0t K f with
  |none=>rw [(hT0 ht).2]
  |some t=>rw [(hT t ht).2.2.2.2];simp
 ·unfold a0q;rw [hent];have hfill:a1a (s7 K f) sp p=a1a K sp p:=a3v (K:=K) (K':=s7 K f) rfl (harea sp) p
  cases he:k7 (j3 K sp) p with
  |none=>exact hfill
  |some e=>
   obtain ⟨hem,hep⟩:=y6 he;rcases a4T (K':=K) (K:=K) (g:=id) (List.map_id _).symm sp with ⟨h0,-,h2⟩|⟨s,hs,h1,-⟩
   ·unfold j3 at hem;rw [h2] at hem
    cases hem
   ·have hes:e ∈ s.entries:=by unfold j3 at hem;rwa [h1] at hem
    have hnm:=a3a hs hes;show (match n9 (f:Nat) ((a0t K f).map fun (t:Nat)=>(t:Int)) e with
     |some e=>z7 (s7 K f) e
     |none=>a1a (s7 K f) sp p)=z7 K e
    unfold n9;by_cases hk:e.kind=1/\e.at_=(f:Nat)
    ·rw [xf0 hk];rw [hk.1,hk.2] at hnm;have hd:=hfo.data _ hnm;rw [b4x hs] at hd;have hdat:z7 K e=(j7 K.frames f).data:=by unfold z7;rw [xf0 hk.1,hk.2];rfl
     rw [hdat]
     cases ht:a0t K f with
     |none=>
      rw [<- m8 hff] at hd;rcases hd with hd|hd
      ·rw [(hT0 ht).1] at hd;cases hd
      ·show a1a (s7 K f) sp p=_;rw [hfill];unfold a1a;have:(a0J s e).1.page=p:=hep;rw [hep] at hd;rw [show (a0J s e).1.page=p from hep] at hd;rw [<- hd];rfl
     |some t=>
      obtain ⟨-,-,h3,-,h5⟩:=hT t ht;show z7 (s7 K f) ⟨e.page,2,(t:Nat)⟩=_;unfold z7;rw [xf1 (by show ¬((2:Int)=1);omega),h5,show ((t:Nat):Int).toNat=t from rfl,a6e,xf0 ⟨rfl,h3⟩]
    ·rw [xf1 hk];show z7 (s7 K f) e=z7 K e;unfold z7;by_cases hk1:e.kind=1
     ·rw [xf0 hk1,xf0 hk1,hfr,xf1];rintro rfl;rcases (h.ent hs hes).2 with ⟨-,g,hg,-⟩|⟨h2,-⟩
      ·exact hk ⟨hk1,by omega⟩
      ·omega
     ·rw [xf1 hk1,xf1 hk1];rcases (h.ent hs hes).2 with ⟨h1,-⟩|⟨h2,g,hg,hgl⟩
      ·exact absurd h1 hk1
      ·rw [hsw];rw [hg];have hgo:=h.sl g _ (xe1 hgl);rw [h2,hg] at hnm;rw [show ((g:Nat):Int).toNat=g from rfl,a1z (xe1 hgl),hgo.refs];intro e0;have:j6 K.spaces 2 (g:Nat)=[]:=xf4 (by omega);rw [this] at hnm
       cases hnm
structure b5M (K:Ker) (held:List Nat) (r:Ker×Nat):Prop where
 right:Right r.1
 same:SameP K r.1
 lt:r.2 < K.frames.length
 zero:j7 r.1.frames r.2=fm0
 nobody:j6 r.1.spaces 1 (r.2:Nat)=[]
 kept:∀ i ∈ held,(j7 K.frames i).refs≠0->r.2≠i/\j7 r.1.frames i=j7 K.frames i
 slots:∀ i,(a0K K.slots i).refs≠0->a0K r.1.slots i=a0K K.slots i
 some_:∀ sp p e,k7 (j3 K sp) p=some e->(e.kind≠1\/∃ i ∈ held,e.at_=((i:Nat):Int)/\(j7 K.frames i).refs≠0)->k7 (j3 r.1 sp) p=some e
 none_:∀ sp p,k7 (j3 K sp) p=none->k7 (j3 r.1 sp) p=none
theorem a3Y {K:Ker} (h:Right K) {held:List Nat} (hl:held.length<=2):b5M K held (y9 K held):=by
 unfold y9
 cases hf:a2L K.frames with
 |some i=>
  obtain ⟨f,hfi,h0⟩:=a97 hf;have hz:=(h.fr i f hfi).free h0;refine ⟨h,SameP.refl K,c9 hfi,by show j7 K.frames i=_;rw [m8 hfi];exact hz.2,hz.1,fun j _ hj=>⟨?_,rfl⟩,fun _ _=>rfl,fun _ _ _ h _=>h,fun _ _ h=>h⟩;rintro rfl;rw [m8 hfi] at hj;exact hj h0
 |none=>
  obtain ⟨c1,c2,c3,c4,c5,c6⟩:=a8o h hl hf;have hnz:∀ i,i < K.frames.length->(j7 K.frames i).refs≠0:=fun i hi=>by
   rw [m8 (xe1 hi)];exact a4m hf _ (xe2 hi)
  have hfl:(a0i K held).2.2 < (⟨K.sheets,(a0i K held).1,K.slots,K.spaces,((a0i K held).2.1:Nat)⟩:Ker).frames.length:=by show _ < (a0i K held).1.length;rw [c6];exact c2
  have hfree:=a7v c1 hfl (by show (j7 (a0i K held).1 _).refs≠0;rw [(c4 _).2.1];exact hnz _ c2);have hr:=a8g c1 hfl (fun _=>hfree);obtain ⟨s1,s2,s3,s4,s5,s6⟩:=a9x c1 hfl (fun _=>hfree);have hs0:SameP K ⟨K.sheets,(a0i K held).1,K.slots,K.spaces,((a0i K held).2.1:Nat)⟩:=by
   refine ⟨rfl,c6,rfl,rfl,fun _=>rfl,fun _=>rfl,fun sp p=>?_⟩;unfold a0q;show (match k7 (j3 K sp) p with
    |some e=>z7 ⟨K.sheets,(a0i K held).1,K.slots,K.spaces,((a0i K held).2.1:Nat)⟩ e
    |none=>a1a K sp p)=_
   cases k7 (j3 K sp) p with
   |none=>rfl
   |some e=>
    show z7 _ e=z7 K e;unfold z7;rw [(c4 _).1]
  refine ⟨hr,hs0.trans s1,c2,s2,s3,fun i hi h0=>⟨?_,?_⟩,fun i hi=>s5 i hi,fun sp p e he hk=>?_,fun sp p he=>?_⟩
  ·rintro rfl;exact c3 hi
  ·show j7 (s7 _ _).frames i=_;rw [s4 i (fun e=>c3 (by rw [<- e];exact hi))];exact c5 i hi
  ·show k7 (j3 (s7 _ _) sp) p=_;rw [s6];show ((k7 (j3 K sp) p).bind _)=_;rw [he];show n9 _ _ e=_;unfold n9;rw [xf1];rintro ⟨k1,k2⟩;rcases hk with hk|⟨i,hi,hk,-⟩
   ·exact hk k1
   ·have:(a0i K held).2.2=i:=by omega
    exact c3 (by rw [this];exact hi)
  ·show k7 (j3 (s7 _ _) sp) p=_;rw [s6];show ((k7 (j3 K sp) p).bind _)=_;rw [he];rfl
theorem a3Z {l:List En} (hr:Rises (j8 l)) {q:Int} {x:En}:k7 l q=some x ↔ x ∈ l/\x.page=q:=by
 constructor
 ·exact y6
 ·rintro ⟨h,rfl⟩;exact a3B hr h
theorem b4o (a:Int) (l:List Int) (t:Int):lbd (a::l) t=if a < t then lbd l t + 1 else 0:=by
 unfold lbd;rw [List.takeWhile_cons];by_cases h:a < t
 ·rw [xf0 (by simpa using h),xf0 h,xb1]
 ·rw [xf1 (by simpa using h),xf1 h];rfl
theorem a7S:∀ {l:List Int} (_:Rises l) (t:Int),(∀ p ∈ l.take (lbd l t),p < t)/\(∀ p ∈ l.drop (lbd l t),t<=p)
 |[],_,t=>by simp
 |a::l,h,t=>by
  have hp:=xd7.1 h;rw [b4o];by_cases c:a < t
  ·rw [xf0 c];obtain ⟨i1,i2⟩:=a7S hp.2 t;refine ⟨fun p hp'=>?_,by simpa using i2⟩;rw [xl7] at hp';rcases xc4.1 hp' with rfl|hp'
   ·exact c
   ·exact i1 p hp'
  ·rw [xf1 c];refine ⟨by simp,fun p hp'=>?_⟩;rw [xm2] at hp';rcases xc4.1 hp' with rfl|hp'
   ·omega
   ·have:=hp.1 p hp';omega
theorem a7A (l:List En) (e:En):(a7l l e).Perm (e::l):=by
 unfold a7l;refine List.perm_middle.trans ?_;rw [xj9]
theorem b0G {l:List En} (h:Rises (j8 l)) {e:En} (hn:e.page ∉ j8 l):Rises (j8 (a7l l e)):=by
 obtain ⟨h1,h2⟩:=a7S h e.page;have h3:Rises ((j8 l).take (lbd (j8 l) e.page)):=h.sublist (List.take_sublist _ _);have h4:Rises ((j8 l).drop (lbd (j8 l) e.page)):=h.sublist (List.drop_sublist _ _);have e1:j8 (a7l l e)=(j8 l).take (lbd (j8 l) e.page)++e.page::(j8 l).drop (lbd (j8 l) e.page):=by
  unfold a7l j8;rw [xm0,xc0,xa4,List.map_drop]
 rw [e1];refine xe4.2 ⟨h3,xd7.2 ⟨fun p hp=>?_,h4⟩,fun a ha b hb=>?_⟩
 ·have:=h2 p hp;have hne:p≠e.page:=fun e0=>hn (by rw [<- e0];exact xk3 hp);omega
 ·have:=h1 a ha;rcases xc4.1 hb with rfl|hb
  ·exact this
  ·have:=h2 b hb;omega
theorem a7Q {l:List En} (h:Rises (j8 l)) (e:En):∃ R,l.Perm ((k7 l e.page).toList++R)/\(putE l e).Perm (e::R)/\Rises (j8 (putE l e))/\(putE l e).length<=l.length + 1:=by
 unfold putE;by_cases hm:e.page ∈ j8 l
 ·rw [xf0 hm];have hi:=(a1f h e.page).2 hm;unfold j8 at hi;rw [xh7] at hi;obtain ⟨x,hx,hxp⟩:=xi6.1 hi;have he:k7 l e.page=some x:=(a3Z h).2 ⟨xd0 hx,hxp⟩;refine ⟨l.eraseIdx (lbd (j8 l) e.page),?_,?_,?_,by simp⟩
  ·rw [he];exact a1N hx
  ·have:=a1N (l:=l.set (lbd (j8 l) e.page) e) (k:=lbd (j8 l) e.page) (b:=e) (by rw [xe0];simp;exact c9 hx)
   rwa [a3O] at this
  ·have:j8 (l.set (lbd (j8 l) e.page) e)=j8 l:=by
    have e1:j8 (l.set (lbd (j8 l) e.page) e)=(j8 l).set (lbd (j8 l) e.page) e.page:=by unfold j8;rw [xl6]
    rw [e1];refine xh2 fun j=>?_;rw [xe0];by_cases hj:lbd (j8 l) e.page=j
    ·rw [xf0 hj,hj.symm];have h9:=(a1f h e.page).2 hm;rw [xf0 (c9 h9),h9]
    ·rw [xf1 hj]
   rw [this];exact h
 ·rw [xf1 hm];refine ⟨l,?_,a7A l e,b0G h hm,by rw [(a7A l e).length_eq];simp⟩;rw [a1p.2 hm];exact List.Perm.refl _
theorem b10 {l:List En} (h:Rises (j8 l)) (e:En) (q:Int):k7 (putE l e) q=if q=e.page then some e else k7 l q:=by
 obtain ⟨R,h1,h2,h3,-⟩:=a7Q h e;by_cases hq:q=e.page
 ·rw [xf0 hq];exact (a3Z h3).2 ⟨h2.mem_iff.2 xc5,hq.symm⟩
 ·rw [xf1 hq]
  cases hx:k7 l q with
  |some x=>
   obtain ⟨hx1,hx2⟩:=y6 hx;refine (a3Z h3).2 ⟨h2.mem_iff.2 (xc6 _ ?_),hx2⟩;rcases xe3.1 (h1.mem_iff.1 hx1) with h4|h4
   ·exfalso;rw [Option.mem_toList] at h4;exact hq (hx2.symm.trans (y6 h4).2)
   ·exact h4
  |none=>
   cases hy:k7 (putE l e) q with
   |none=>rfl
   |some y=>
    exfalso;obtain ⟨hy1,hy2⟩:=y6 hy;rcases xc4.1 (h2.mem_iff.1 hy1) with rfl|h4
    ·exact hq hy2.symm
    ·have:=(a3Z h).2 ⟨h1.mem_iff.2 (xe6 _ h4),hy2⟩;rw [hx] at this
     cases this
def nmL (s:Sc) (k a:Int) (l:List En):List Nm:=(l.filter fun e=>decide (e.kind=k/\e.at_=a)).map (a0J s)
theorem a9g {s:Sc} {k a:Int} {l m:List En} (h:l.Perm m):(nmL s k a l).Perm (nmL s k a m):=(h.filter _).map _
theorem b1t (s:Sc) (k a:Int) (l m:List En):nmL s k a (l++m)=nmL s k a l++nmL s k a m:=by unfold nmL;rw [xl0,xm0]
theorem a55 {s:Sc} {k a:Int} {e:En} (l:List En) (h:e.kind=k/\e.at_=a):nmL s k a (e::l)=a0J s e::nmL s k a l:=by unfold nmL;rw [xl1 (by simpa using h)];rfl
theorem a9K {s:Sc} {k a:Int} {e:En} (l:List En) (h:¬(e.kind=k/\e.at_=a)):nmL s k a (e::l)=nmL s k a l:=by unfold nmL;rw [xl3 (by simpa using h)]
theorem a4x {L:List Sc} {sp:Nat} {s s':Sc} (h:L[sp]?=some s) (k a:Int):(j6 (L.set sp s') k a).Perm (nm1 s' k a++j6 (L.eraseIdx sp) k a)/\(j6 L k a).Perm (nm1 s k a++j6 (L.eraseIdx sp) k a):=by
 constructor
 ·have:=a1N (l:=L.set sp s') (k:=sp) (b:=s') (by rw [xe0];simp;exact c9 h);rw [a3O] at this;exact this.flatMap_right _
 ·exact (a1N h).flatMap_right _
theorem FmOk.dec {sh:List Sh} {f:Fm} {n:Nm} {N:List Nm} (h:FmOk sh f (n::N)):FmOk sh (a3k f) N:=by
 have hr:=h.refs;rw [xb1] at hr;unfold a3k;by_cases h0:f.refs - 1=0
 ·rw [xf0 h0];obtain rfl:N=[]:=xf4 (by omega);exact FmOk.zero sh
 ·rw [xf1 h0];exact ⟨by show f.refs - 1=_;omega,fun e=>absurd (by rw [e] at hr;simp at hr;omega) h0,fun _=>h.len (by simp),fun a ha b hb=>h.same a (xc6 _ ha) b (xc6 _ hb),fun a ha=>h.data a (xc6 _ ha)⟩
theorem SwOk.dec {f:Sw} {n:Nm} {N:List Nm} (h:SwOk f (n::N)):SwOk (a3j f) N:=by
 have hr:=h.refs;rw [xb1] at hr;unfold a3j;by_cases h0:f.refs - 1=0
 ·rw [xf0 h0];obtain rfl:N=[]:=xf4 (by omega);exact SwOk.zero
 ·rw [xf1 h0];exact ⟨by show f.refs - 1=_;omega,fun e=>absurd (by rw [e] at hr;simp at hr;omega) h0,fun _=>h.len (by simp),fun a ha b hb=>h.same a (xc6 _ ha) b (xc6 _ hb)⟩
theorem b3p {sh:List Sh} {f:Fm} {n m:Nm} {N:List Nm} (h:FmOk sh f (n::m::N)):(a3k f).data=f.data:=by
 have hr:=h.refs;rw [xb1,xb1] at hr;unfold a3k;rw [xf1 (by omega)]
theorem b12 {f:Sw} {n m:Nm} {N:List Nm} (h:SwOk f (n::m::N)):(a3j f).data=f.data:=by
 have hr:=h.refs;rw [xb1,xb1] at hr;unfold a3j;rw [xf1 (by omega)]
theorem a5G (K:Ker) (o:Option En):(a1M K o).spaces=K.spaces/\(a1M K o).sheets=K.sheets/\(a1M K o).hand=K.hand/\(a1M K o).frames.length=K.frames.length/\(a1M K o).slots.length=K.slots.length:=by
 cases o with
 |none=>exact ⟨rfl,rfl,rfl,rfl,rfl⟩
 |some e=>
  show (a3n K e).spaces=_/\(a3n K e).sheets=_/\(a3n K e).hand=_/\(a3n K e).frames.length=_/\(a3n K e).slots.length=_;unfold a3n
  split
  ·exact ⟨rfl,rfl,rfl,xa8,rfl⟩
  ·exact ⟨rfl,rfl,rfl,rfl,xa8⟩
structure InOk (K K':Ker) (sp:Nat) (page:Int) (f:Nat) (data:List UInt8) (dirty:Bool):Prop where
 right:Right K'
 sheets:K'.sheets=K.sheets
 nfr:K'.frames.length=K.frames.length
 nsl:K'.slots.length=K.slots.length
 nsp:K'.spaces.length=K.spaces.length
 ar:∀ i,m6 K' i=m6 K i
 live:∀ i,(a0l K' i).live=(a0l K i).live
 peek:∀ i p,¬(i=sp/\p=page)->a0q K' i p=a0q K i p
 here:a0q K' sp page=data
 ent:∀ i p,k7 (j3 K' i) p=if i=sp/\p=page then some ⟨page,1,(f:Nat)⟩ else k7 (j3 K i) p
 fm:j7 K'.frames f=⟨data,1,dirty,false⟩
 other:∀ i,i≠f->(∀ w0,k7 (j3 K sp) page=some w0->¬(w0.kind=1/\w0.at_=((i:Nat):Int)))->j7 K'.frames i=j7 K.frames i
theorem b6q {K:Ker} {sp:Nat} {s:Sc} {page:Int} {f:Nat} {data:List UInt8} {dirty:Bool} (h:Right K) (hs:K.spaces[sp]?=some s) (hlive:s.live=true) (ha:(o9 s.areas page).isSome=true) (hf:f < K.frames.length) (hN:j6 K.spaces 1 (f:Nat)=[]) (hd:data.length=16) (hfill:dirty=true\/some data=a0H K.sheets (zAt K sp page) page):InOk K (inK K sp page f data dirty) sp page f data dirty:=by
 have hsc:=a08.1 (h.spaces s (xd0 hs));have hse:=a00 hs;have hent:j3 K sp=s.entries:=by unfold j3;rw [hse]
 obtain ⟨e',he'⟩:∃ e':En,e'=⟨page,1,(f:Nat)⟩:=⟨_,rfl⟩;obtain ⟨s',hs'⟩:∃ s':Sc,s'=⟨s.live,s.areas,putE s.entries e'⟩:=⟨_,rfl⟩;obtain ⟨was,hwas⟩:∃ o,o=k7 s.entries page:=⟨_,rfl⟩;obtain ⟨R,r1,r2,r3,r4⟩:=a7Q hsc.rises e';have hpe:e'.page=page:=by rw [he']
 rw [hpe,<- hwas] at r1;have hM:∀ k a,(j6 K.spaces k a).Perm (nmL s k a was.toList++(nmL s k a R++j6 (K.spaces.eraseIdx sp) k a)):=fun k a=>by
  refine (a4x (s':=s') hs k a).2.trans ?_;rw [<- xg1,<- b1t];exact List.Perm.append_right _ (a9g r1)
 have hM':∀ k a,(j6 (K.spaces.set sp s') k a).Perm (nmL s k a [e']++(nmL s k a R++j6 (K.spaces.eraseIdx sp) k a)):=fun k a=>by
  refine (a4x (s':=s') hs k a).1.trans ?_;rw [<- xg1,<- b1t];refine List.Perm.append_right _ ?_;have:nm1 s' k a=nmL s k a (putE s.entries e'):=by rw [hs'];rfl
  rw [this];exact a9g r2
 obtain ⟨M,hMd⟩:∃ M:Int->Int->List Nm,M=fun k a=>nmL s k a R++j6 (K.spaces.eraseIdx sp) k a:=⟨_,rfl⟩;have hMe:∀ k a,nmL s k a R++j6 (K.spaces.eraseIdx sp) k a=M k a:=fun k a=>by rw [hMd]
 simp only [hMe] at hM hM';have hMf:M 1 (f:Nat)=[]:=by
  have:=(hM 1 (f:Nat)).symm.trans (by rw [hN]);exact (xo7.1 this.eq_nil).2
 have hwf:∀ w0,was=some w0->w0.kind=1->w0.at_≠(f:Nat):=fun w0 hw k1 k2=>by
  have:=(hM 1 (f:Nat)).symm.trans (by rw [hN]);rw [hw,xp8,a55 [] ⟨k1,k2⟩] at this
  cases this.eq_nil
 have hwin:∀ w0,was=some w0->(w0.kind=1/\∃ b:Nat,w0.at_=(b:Nat)/\b < K.frames.length)\/(w0.kind=2/\∃ b:Nat,w0.at_=(b:Nat)/\b < K.slots.length):=fun w0 hw=>by
  rw [hwas] at hw;exact (h.ent hs (y6 hw).1).2
 -- what comes
 have hK':inK K sp page f data dirty=⟨K.sheets,(a1M (x7 K f ⟨data,1,dirty,false⟩) was).frames,(a1M (x7 K f ⟨data,1,dirty,false⟩) was).slots,K.spaces.set sp s',K.hand⟩:=by
  unfold inK a1W a8T;rw [hent,<- hwas,hs',he'];obtain ⟨l1,l2,l3,-⟩:=a5G (x7 K f ⟨data,1,dirty,false⟩) was;have hl:a0l (a1M (x7 K f ⟨data,1,dirty,false⟩) was) sp=s:=by
   unfold a0l;rw [l1];show (K.spaces[sp]?).getD sc0=s;rw [hs];rfl
  rw [hl,l1,l2,l3];rfl
 rw [hK'];have hlens:=a5G (x7 K f ⟨data,1,dirty,false⟩) was;have hlf:(a1M (x7 K f ⟨data,1,dirty,false⟩) was).frames.length=K.frames.length:=by rw [hlens.2.2.2.1];show (K.frames.set f _).length=_;simp
 have hls:(a1M (x7 K f ⟨data,1,dirty,false⟩) was).slots.length=K.slots.length:=by rw [hlens.2.2.2.2];rfl
 have hscs:∀ i,a0l ⟨K.sheets,(a1M (x7 K f ⟨data,1,dirty,false⟩) was).frames,(a1M (x7 K f ⟨data,1,dirty,false⟩) was).slots,K.spaces.set sp s',K.hand⟩ i=if i=sp then s' else a0l K i:=fun i=>by
  unfold a0l;show ((K.spaces.set sp s')[i]?).getD sc0=_;rw [xe0];by_cases e:sp=i
  ·subst e;rw [xf0 rfl,xf0 (c9 hs),xf0 rfl];rfl
  ·rw [xf1 e,xf1 (fun hh=>e hh.symm)]
 have har:∀ i,m6 ⟨K.sheets,(a1M (x7 K f ⟨data,1,dirty,false⟩) was).frames,(a1M (x7 K f ⟨data,1,dirty,false⟩) was).slots,K.spaces.set sp s',K.hand⟩ i=m6 K i:=fun i=>by
  unfold m6;rw [hscs];by_cases e:i=sp
  ·subst e;rw [xf0 rfl,hse,hs']
  ·rw [xf1 e]
 have hlv:∀ i,(a0l ⟨K.sheets,(a1M (x7 K f ⟨data,1,dirty,false⟩) was).frames,(a1M (x7 K f ⟨data,1,dirty,false⟩) was).slots,K.spaces.set sp s',K.hand⟩ i).live=(a0l K i).live:=fun i=>by
  rw [hscs];by_cases e:i=sp
  ·subst e;rw [xf0 rfl,hse,hs']
  ·rw [xf1 e]
 have hen:∀ i p,k7 (j3 ⟨K.sheets,(a1M (x7 K f ⟨data,1,dirty,false⟩) was).frames,(a1M (x7 K f ⟨data,1,dirty,false⟩) was).slots,K.spaces.set sp s',K.hand⟩ i) p=if i=sp/\p=page then some ⟨page,1,(f:Nat)⟩ else k7 (j3 K i) p:=fun i p=>by
  unfold j3;rw [hscs];by_cases e:i=sp
  ·subst e;rw [xf0 rfl,hse,hs'];show k7 (putE s.entries e') p=_;rw [b10 hsc.rises,hpe];by_cases e2:p=page
   ·rw [xf0 e2,xf0 ⟨rfl,e2⟩,he']
   ·rw [xf1 e2,xf1 (fun hh=>e2 hh.2)]
  ·rw [xf1 e,xf1 (fun hh=>e hh.1)]
 -- frames and slots
 have hfr:∀ i,j7 (a1M (x7 K f ⟨data,1,dirty,false⟩) was).frames i=if i=f then ⟨data,1,dirty,false⟩ else if (∃ w0,was=some w0/\w0.kind=1/\w0.at_=(i:Nat)) then a3k (j7 K.frames i) else j7 K.frames i:=fun i=>by
  have a1b:∀ j,j7 (K.frames.set f ⟨data,1,dirty,false⟩) j=if j=f then ⟨data,1,dirty,false⟩ else j7 K.frames j:=fun j=>by
   rw [a2t];by_cases e:f=j
   ·subst e;rw [xf0 ⟨rfl,hf⟩,xf0 rfl]
   ·rw [xf1 (fun hh=>e hh.1),xf1 (fun hh=>e hh.symm)]
  cases hw:was with
  |none=>
   show j7 (K.frames.set f _) i=_;rw [a1b];by_cases e:i=f
   ·rw [xf0 e,xf0 e]
   ·rw [xf1 e,xf1 e,xf1];rintro ⟨w0,h1,-⟩
    cases h1
  |some w0=>
   have h1:=hwf w0 hw;show j7 (a3n (x7 K f _) w0).frames i=_;unfold a3n;rcases hwin w0 hw with ⟨k,b,hb,hbl⟩|⟨k,b,hb,hbl⟩
   ·rw [xf0 k];show j7 ((K.frames.set f ⟨data,1,dirty,false⟩).set w0.at_.toNat (a3k (j7 (K.frames.set f ⟨data,1,dirty,false⟩) w0.at_.toNat))) i=_;rw [hb,show ((b:Nat):Int).toNat=b from rfl,a2t,a1b,a1b];have hbf:¬ b=f:=fun e=>h1 k (by rw [hb,e]);rw [xf1 hbf];by_cases e:b=i
    ·subst e;rw [xf0 ⟨rfl,by simpa using hbl⟩,xf1 hbf,xf0 ⟨w0,rfl,k,hb⟩]
    ·rw [xf1 (fun hh=>e hh.1)];by_cases e2:i=f
     ·rw [xf0 e2,xf0 e2]
     ·rw [xf1 e2,xf1 e2,xf1];rintro ⟨w1,h2,-,h3⟩
      cases h2
      rw [hb] at h3;exact e (by omega)
   ·rw [xf1 (by omega)];show j7 (K.frames.set f _) i=_;rw [a1b];by_cases e:i=f
    ·rw [xf0 e,xf0 e]
    ·rw [xf1 e,xf1 e,xf1];rintro ⟨w1,h2,h3,-⟩
     cases h2
     omega
 have hsl:∀ i,a0K (a1M (x7 K f ⟨data,1,dirty,false⟩) was).slots i=if (∃ w0,was=some w0/\w0.kind=2/\w0.at_=(i:Nat)) then a3j (a0K K.slots i) else a0K K.slots i:=fun i=>by
  cases hw:was with
  |none=>
   show a0K K.slots i=_;rw [xf1];rintro ⟨w0,h1,-⟩
   cases h1
  |some w0=>
   show a0K (a3n (x7 K f _) w0).slots i=_;unfold a3n;rcases hwin w0 hw with ⟨k,b,hb,hbl⟩|⟨k,b,hb,hbl⟩
   ·rw [xf0 k];show a0K K.slots i=_;rw [xf1];rintro ⟨w1,h2,h3,-⟩
    cases h2
    omega
   ·rw [xf1 (by omega)];show a0K (K.slots.set w0.at_.toNat (a3j (a0K K.slots w0.at_.toNat))) i=_;rw [hb,show ((b:Nat):Int).toNat=b from rfl,a6e];by_cases e:b=i
    ·subst e;rw [xf0 ⟨rfl,hbl⟩,xf0 ⟨w0,rfl,k,hb⟩]
    ·rw [xf1 (fun hh=>e hh.1),xf1];rintro ⟨w1,h2,-,h3⟩
     cases h2
     rw [hb] at h3;exact e (by omega)
 -- who names what
 have hN1:∀ i:Nat,(∃ w0,was=some w0/\w0.kind=1/\w0.at_=(i:Nat))->∃ n,(j6 K.spaces 1 (i:Nat)).Perm (n::M 1 (i:Nat)):=fun i ⟨w0,hw,h1,h2⟩=>by
  refine ⟨a0J s w0,(hM 1 (i:Nat)).trans ?_⟩;rw [hw,xp8,a55 [] ⟨h1,h2⟩];exact List.Perm.refl _
 have hN1':∀ (k:Int) (i:Nat),¬(∃ w0,was=some w0/\w0.kind=k/\w0.at_=(i:Nat))->(j6 K.spaces k (i:Nat)).Perm (M k (i:Nat)):=fun k i hno=>by
  refine (hM k (i:Nat)).trans ?_
  cases hw:was with
  |none=>exact List.Perm.refl _
  |some w0=>
   rw [xp8,a9K [] (fun hh=>hno ⟨w0,hw,hh.1,hh.2⟩)];exact List.Perm.refl _
 have hN2:∀ i:Nat,(∃ w0,was=some w0/\w0.kind=2/\w0.at_=(i:Nat))->∃ n,(j6 K.spaces 2 (i:Nat)).Perm (n::M 2 (i:Nat)):=fun i ⟨w0,hw,h1,h2⟩=>by
  refine ⟨a0J s w0,(hM 2 (i:Nat)).trans ?_⟩;rw [hw,xp8,a55 [] ⟨h1,h2⟩];exact List.Perm.refl _
 have hNn:∀ (k:Int) (i:Nat),¬(k=1/\i=f)->(j6 (K.spaces.set sp s') k (i:Nat)).Perm (M k (i:Nat)):=fun k i hno=>by
  refine (hM' k (i:Nat)).trans ?_;rw [he',a9K []]
  ·exact List.Perm.refl _
  ·rintro ⟨h1,h2⟩;exact hno ⟨h1.symm,by have:((f:Nat):Int)=(i:Nat):=h2;omega⟩
 have hNf:(j6 (K.spaces.set sp s') 1 (f:Nat)).Perm [a0J s e']:=by
  refine (hM' 1 (f:Nat)).trans ?_;rw [hMf,a55 [] (by rw [he'];exact ⟨rfl,rfl⟩)];exact List.Perm.refl _
 -- an entry that stays: its data
 have hdata:∀ (x:En),(x.kind=1\/x.kind=2)->(∃ b:Nat,x.at_=(b:Nat)/\(x.kind=1->b < K.frames.length)/\(x.kind=2->b < K.slots.length))->M x.kind x.at_≠[]->z7 ⟨K.sheets,(a1M (x7 K f ⟨data,1,dirty,false⟩) was).frames,(a1M (x7 K f ⟨data,1,dirty,false⟩) was).slots,K.spaces.set sp s',K.hand⟩ x=z7 K x:=fun x hk ⟨b,hb,hb1,hb2⟩ hne=>by
  unfold z7;rcases hk with hk|hk
  ·rw [xf0 hk,xf0 hk];dsimp only;rw [hb,show ((b:Nat):Int).toNat=b from rfl,hfr];rw [hk,hb] at hne;by_cases e:b=f
   ·subst e;exact absurd hMf hne
   ·rw [xf1 e];by_cases hw:∃ w0,was=some w0/\w0.kind=1/\w0.at_=(b:Nat)
    ·rw [xf0 hw];obtain ⟨n,hn⟩:=hN1 b hw;have hbo:=(h.fr b _ (xe1 (hb1 hk))).perm hn;rw [m8 (xe1 (hb1 hk))]
     cases hMb:M 1 (b:Nat) with
     |nil=>exact absurd hMb hne
     |cons m N=>
      rw [hMb] at hbo;exact b3p hbo
    ·rw [xf1 hw]
  ·rw [xf1 (by omega),xf1 (by omega)];dsimp only;rw [hb,show ((b:Nat):Int).toNat=b from rfl,hsl];rw [hk,hb] at hne;by_cases hw:∃ w0,was=some w0/\w0.kind=2/\w0.at_=(b:Nat)
   ·rw [xf0 hw];obtain ⟨n,hn⟩:=hN2 b hw;have hbo:=(h.sl b _ (xe1 (hb2 hk))).perm hn;rw [a1z (xe1 (hb2 hk))]
    cases hMb:M 2 (b:Nat) with
    |nil=>exact absurd hMb hne
    |cons m N=>
     rw [hMb] at hbo;exact b12 hbo
   ·rw [xf1 hw]
 have hfmf:j7 (a1M (x7 K f ⟨data,1,dirty,false⟩) was).frames f=⟨data,1,dirty,false⟩:=by rw [hfr,xf0 rfl]
 have hcnt:=h.cnt;have hhand:=h.hand;refine ⟨⟨?_,h.rise,?_,fun x hx=>?_,?_,fun i g hg=>?_,fun i g hg=>?_⟩,rfl,hlf,hls,by simp,har,hlv,fun i p hno=>?_,?_,hen,hfmf,fun i hi hw=>?_⟩
 ·dsimp only;rw [hlf,hls,xa8];exact hcnt
 ·dsimp only;rw [hlf];exact hhand
 ·dsimp only at hx |-;rw [hlf,hls];rcases xn2 hx with hx|rfl
  ·exact h.spaces x hx
  ·rw [a08,hs'];refine ⟨fun hl=>(by rw [hlive] at hl;cases hl),hsc.ar,hsc.pages,fun e he=>?_,r3⟩;rcases xc4.1 (r2.mem_iff.1 he) with rfl|he
   ·rw [he'];exact ⟨ha,xd6 ⟨rfl,Int.natCast_nonneg f,by show ((f:Nat):Int) < _;omega⟩⟩
   ·exact hsc.ents e (r1.mem_iff.2 (xe6 _ he))
 ·dsimp only;rw [hls];have:a0g (K.spaces.set sp s')=a0g K.spaces:=by
   unfold a0g;rw [xl6,hs']
   congr 1
   refine xh2 fun j=>?_;rw [xe0];by_cases e:sp=j
   ·subst e;rw [xf0 rfl,xj4,xf0 (c9 hs),xh7,hs];rfl
   ·rw [xf1 e]
  rw [this];exact h.room
 ·dsimp only at hg |-;have hil:i < K.frames.length:=by have:=c9 hg;omega
  have hgi:=xe1 hil;have hge:=hfr i;rw [m8 hg,m8 hgi] at hge;by_cases e:i=f
  ·subst e;rw [xf0 rfl] at hge;refine FmOk.perm (N:=[a0J s e']) ?_ hNf.symm;rw [hge];refine ⟨rfl,(fun hh=>by cases hh),fun _=>hd,fun n hn m hm=>?_,fun n hn=>?_⟩
   ·rw [xi9] at hn hm;subst hn;subst hm;exact ⟨rfl,rfl⟩
   ·rw [xi9] at hn;subst hn;rcases hfill with hh|hh
    ·exact xd6 hh
    ·right;rw [b4x hs,hpe];rw [show (a0J s e').1.page=page from hpe];exact hh
  ·rw [xf1 e] at hge;have hpm:=hNn 1 i (fun hh=>e hh.2);by_cases hw:∃ w0,was=some w0/\w0.kind=1/\w0.at_=(i:Nat)
   ·rw [xf0 hw] at hge;obtain ⟨n,hn⟩:=hN1 i hw;rw [hge];exact ((h.fr i _ hgi).perm hn).dec.perm hpm.symm
   ·rw [xf1 hw] at hge;rw [hge];exact (h.fr i _ hgi).perm ((hN1' 1 i hw).trans hpm.symm)
 ·dsimp only at hg |-;have hil:i < K.slots.length:=by have:=c9 hg;omega
  have hgi:=xe1 hil;have hge:=hsl i;rw [a1z hg,a1z hgi] at hge;have hpm:=hNn 2 i (fun hh=>by omega);by_cases hw:∃ w0,was=some w0/\w0.kind=2/\w0.at_=(i:Nat)
  ·rw [xf0 hw] at hge;obtain ⟨n,hn⟩:=hN2 i hw;rw [hge];exact ((h.sl i _ hgi).perm hn).dec.perm hpm.symm
  ·rw [xf1 hw] at hge;rw [hge];exact (h.sl i _ hgi).perm ((hN1' 2 i hw).trans hpm.symm)
 ·unfold a0q;rw [hen,xf1 hno]
  cases hx:k7 (j3 K i) p with
  |none=>exact a3v (hs:=by rfl) (ha:=har i) p
  |some x=>
   show z7 _ x=z7 K x;obtain ⟨hx1,hx2⟩:=y6 hx
   cases hi:K.spaces[i]? with
   |none=>unfold j3 at hx1;rw [a5b hi] at hx1;cases hx1
   |some t=>
    unfold j3 at hx1;rw [a00 hi] at hx1;have hin:=(h.ent hi hx1).2;have hk:x.kind=1\/x.kind=2:=by rcases hin with ⟨a,-⟩|⟨a,-⟩ <;> omega
    refine hdata x hk ?_ ?_
    ·rcases hin with ⟨a,b,c,d⟩|⟨a,b,c,d⟩
     ·exact ⟨b,c,fun _=>d,fun hh=>by omega⟩
     ·exact ⟨b,c,fun hh=>by omega,fun _=>d⟩
    ·rw [<- hMe];intro hnil;obtain ⟨h1,h2⟩:=xo7.1 hnil;by_cases e:i=sp
     ·subst e;rw [hs] at hi
      cases hi
      have hxR:x ∈ R:=by
       rcases xe3.1 (r1.mem_iff.1 hx1) with h4|h4
       ·exfalso;rw [Option.mem_toList,hwas] at h4;exact hno ⟨rfl,hx2.symm.trans (y6 h4).2⟩
       ·exact h4
      have:a0J s x ∈ nmL s x.kind x.at_ R:=xj0.2 ⟨x,xj1.2 ⟨hxR,by simp⟩,rfl⟩;rw [h1] at this
      cases this
     ·have hte:t ∈ K.spaces.eraseIdx sp:=List.mem_eraseIdx_iff_getElem?.2 ⟨i,e,hi⟩;have:a0J t x ∈ j6 (K.spaces.eraseIdx sp) x.kind x.at_:=by
       rw [a0u,xj2];exact ⟨t,hte,xj0.2 ⟨x,xj1.2 ⟨hx1,by simp⟩,rfl⟩⟩
      rw [h2] at this
      cases this
 ·unfold a0q;rw [hen,xf0 ⟨rfl,rfl⟩];show z7 _ (⟨page,1,(f:Nat)⟩:En)=data;unfold z7;rw [xf0 rfl];show (j7 (a1M (x7 K f ⟨data,1,dirty,false⟩) was).frames f).data=data;rw [hfmf]
 ·show j7 (a1M (x7 K f ⟨data,1,dirty,false⟩) was).frames i=_;rw [hfr,xf1 hi,xf1];rintro ⟨w0,h1,h2,h3⟩;exact hw w0 (by rw [hent,<- hwas];exact h1) ⟨h2,h3⟩
end Go.Proofs.YtejnpppejalhfabGreat
