/- Texts that the proof stands on, one behind the other: Ke12, PlRun3, PlRun4, PlRun5, PlRun6. -/
import Derived.Test.YtejnpppejalhfabGreatPKernelReaches8
set_option linter.unusedVariables false
set_option linter.unusedSimpArgs false
namespace Go.Proofs.YtejnpppejalhfabGreat
set_option maxRecDepth 100000
set_option maxHeartbeats 8000000
open Go.RowKit Go.Sort
theorem b0t {l:List Sh} {nf ns:Int} {L:List Sc} (h:L.all (t7 l nf ns)=true) {k a:Int} {n:Nm} (hn:n ∈ j4 L k a):∃ x,a0G l n.2.z n.1.page=some x:=by
 unfold j4 at hn;obtain ⟨s,hs,h2⟩:=xq8.1 hn;obtain ⟨e,he,rfl⟩:=xm7.1 h2;have hsc:=a03.1 (xc7.1 h s hs);obtain ⟨b,hb⟩:=xi4.1 (hsc.ents e (xp0.1 he).1).1;have hm:=xi3 hb;have hh:=xi5 hb;unfold a0a Ar.fin at hh;rw [xb3] at hh;have hp:=hsc.pages;unfold a1z at hp;have h3:=xc7.1 (xc7.1 hp b hm) (e.page - b.pg).toNat (by rw [xi6];omega);rw [show b.pg + (((e.page - b.pg).toNat:Nat):Int)=e.page by omega] at h3;obtain ⟨d,hd⟩:=xi4.1 h3;exact ⟨d,by unfold a0P;rw [hb];exact hd⟩
theorem a7E (N:List Nm):∃ p q a,a0X N=((N.length:Int),p,q,a)/\(∀ n r,N=n::r->q=a0M N/\(a0M N=true->p=n.1.page/\a.z=n.2.z)):=by
 rcases h:a0X N with ⟨c,p,q,a⟩
 have hl:=b0H N;rw [h] at hl;dsimp only at hl;subst hl;refine ⟨p,q,a,rfl,fun n r e=>?_⟩;subst e;have:=a8L (n:=n) (r:=r);rw [h] at this;exact this
theorem b0a {K:Ker} (h:∀ (j:Nat) f,K.frames[j]?=some f->a1l K.sheets f (j4 K.spaces 1 (j:Nat))=true):a0Y K=true:=by
 unfold a0Y;rw [xc7];intro i _
 cases hf:K.frames[i]? with
 |none=>rfl
 |some f=>exact h i f hf
theorem a13 {K:Ker} {j:Nat} {f:Fm} (hf:K.frames[j]?=some f) (h:a1l K.sheets f (j4 K.spaces 1 (j:Nat))=false):a0Y K=false:=by
 unfold a0Y;rw [xq7];exact ⟨j,xi6.2 (b9 hf),by rw [hf];simpa using h⟩
theorem b14 {K:Ker} (h:∀ (j:Nat) f,K.slots[j]?=some f->a10 f (j4 K.spaces 2 (j:Nat))=true):a1P K=true:=by
 unfold a1P;rw [xc7];intro i _
 cases hf:K.slots[i]? with
 |none=>rfl
 |some f=>exact h i f hf
theorem a3d {K:Ker} {j:Nat} {f:Sw} (hf:K.slots[j]?=some f) (h:a10 f (j4 K.spaces 2 (j:Nat))=false):a1P K=false:=by
 unfold a1P;rw [xq7];exact ⟨j,xi6.2 (b9 hf),by rw [hf];simpa using h⟩
theorem a8Z {w:World} {k:KV} (hK:KerV w k):Fn Tryz.prog 24 [.agg (kvC k).toArray] w (RBf (.int .i64 (a02 k.K)) w):=by
 have b1:=hK.fr.bound;have b2:=hK.sl.bound;have b3:=hK.sp.bound;have b4:=hK.sh.sl.bound;have hsf:=fun w1 (h:KerV w1 k) (p:Sp) (hp:p ∈ k.sp)=>a8Q h (h.spv p hp);obtain ⟨sh,fr,sl,sp,hand,vsh,vfr,vsl,vsp⟩:=k;have hK0:=hK;obtain ⟨k1,k2,k3,k4,k5⟩:=hK;dsimp only at b1 b2 b3 b4 k1 k2 k3 k4 k5 hsf;obtain ⟨p1,c1,rfl⟩:=k1.sl.len;obtain ⟨p2,c2,rfl⟩:=k2.len;obtain ⟨p3,c3,rfl⟩:=k3.len;obtain ⟨p4,c4,rfl⟩:=k4.len;unfold kvC a02 KV.K;unfold kvC at hsf;dsimp only at hsf |-;by_cases hcnt:a1V ⟨shs sh,fr,sl,sp.map (·.s),hand⟩=true;rotate_left
 ·rw [xf1 hcnt];unfold a1V at hcnt;rw [xb3] at hcnt;dsimp only at hcnt;rw [xj1,a1S] at hcnt;refine yEn Tryz.func24 Tryz.ntmps24 (by kernel_rfl) (by kernel_rfl) rfl rfl ?_;have hS:=St.start w
  repeat' (first|(with_reducible apply a8 a7);rfl;rfl;rfl|(with_reducible apply a9);rfl;(apply Ld.sl a7;rfl;exact hS.blkC 0 rfl rfl);rfl|refine yDn (by with_reducible constructor) ?_|(with_reducible apply j5);(iterate 4 rfl);assumption|(with_reducible apply s9);(iterate 4 rfl);(first|rfl|assumption);rfl|(with_reducible apply e9);rfl;(first|rfl|assumption);rfl;rfl|(with_reducible apply f5);rfl;assumption;rfl;rfl|(with_reducible apply d9);rfl;rfl|(with_reducible apply l6 hS);rfl;rfl;rfl;clear hS;intro g w' hS|(with_reducible apply r9);rfl;rfl;rfl;all_goals (intro hb hp;try (exfalso;omega))|(with_reducible apply a1R);rfl;rfl;rfl;all_goals (intro hb hp;try (exfalso;omega))|(with_reducible apply d5);rfl;all_goals (intro hb hp;try (exfalso;omega))|(with_reducible apply d6 hS);rfl;rfl;rfl;refine ⟨_,o7 _ _ _ _,?_⟩;clear hS;intro w' hS)
  all_goals (apply w7)
  all_goals (repeat (first|exact ResL.nil|apply ResL.tmp;rfl))
  all_goals (exact ⟨rfl,hS.sub (xj3 _)⟩)
 rw [xf0 hcnt];unfold a1V at hcnt;rw [xb3] at hcnt;dsimp only at hcnt;rw [xj1,a1S] at hcnt;have hshe:=fun w1 (h:ShsV w1 sh (.slice p1 sh.length c1))=>a7o h;have hfe:a5F ⟨shs sh,fr,sl,sp.map (·.s),hand⟩=((a0T 0 (shs sh) && decide (0<=hand/\hand < (fr.length:Int))) && ((sp.map (·.s)).all (t7 (shs sh) fr.length sl.length) && (decide (a0i (sp.map (·.s))<=(sl.length:Int)) && (a0Y ⟨shs sh,fr,sl,sp.map (·.s),hand⟩ && a1P ⟨shs sh,fr,sl,sp.map (·.s),hand⟩)))):=rfl
 cases hsh:a0T 0 (shs sh) with
 |false=>
  rw [hsh] at hshe hfe;rw [xq3,xq3] at hfe;rw [hfe];refine yEn Tryz.func24 Tryz.ntmps24 (by kernel_rfl) (by kernel_rfl) rfl rfl ?_;have hS:=St.start w
  repeat' (first|(with_reducible apply a8 a7);rfl;rfl;rfl|(with_reducible apply a9);rfl;(apply Ld.sl a7;rfl;exact hS.blkC 0 rfl rfl);rfl|refine yDn (by with_reducible constructor) ?_|(with_reducible apply j5);(iterate 4 rfl);assumption|(with_reducible apply s9);(iterate 4 rfl);rfl;rfl|(with_reducible apply e9);rfl;rfl;rfl;rfl|(with_reducible apply f5);rfl;assumption;rfl;rfl|(with_reducible apply d9);rfl;rfl|(with_reducible apply l6 hS);rfl;rfl;rfl;clear hS;intro g w' hS|(with_reducible apply r9);rfl;rfl;rfl;all_goals (intro hb hp;try (exfalso;omega))|(with_reducible apply a1R);rfl;rfl;rfl;all_goals (intro hb hp;try (exfalso;omega))|(with_reducible apply d5);rfl;all_goals (intro hb hp;try (exfalso;omega))|(with_reducible apply d6 hS);rfl;rfl;rfl;refine ⟨_,o7 _ _ _ _,?_⟩;clear hS;intro w' hS|(with_reducible apply d6 hS);rfl;rfl;rfl;refine ⟨_,hshe _ (k1.now hS),?_⟩;clear hS;intro w' hS)
  (refine k6 rfl ?_)
  exact ⟨rfl,hS.sub (xj3 _)⟩
 |true=>
  rw [hsh] at hshe hfe;rw [xq2] at hfe;by_cases hh:0<=hand/\hand<=(fr.length:Int) - 1;rotate_left
  ·rw [xj2 (fun h=>hh ⟨h.1,by omega⟩),xq3] at hfe;rw [hfe];refine yEn Tryz.func24 Tryz.ntmps24 (by kernel_rfl) (by kernel_rfl) rfl rfl ?_;have hS:=St.start w
   repeat' (first|(with_reducible apply a8 a7);rfl;rfl;rfl|(with_reducible apply a9);rfl;(first|apply Ld.sc a7;rfl;exact hS.blkC 0 rfl rfl|apply Ld.sl a7;rfl;exact hS.blkC 0 rfl rfl);rfl|(with_reducible apply a0h);rfl;rfl;omega;omega;rfl|refine yDn (by with_reducible constructor) ?_|((with_reducible apply j5);(iterate 4 rfl);first|rfl|assumption)|(with_reducible apply f5);rfl;(first|rfl|assumption);rfl;rfl|(with_reducible apply l6 hS);rfl;rfl;rfl;clear hS;intro g w' hS|(with_reducible apply r9);rfl;rfl;rfl;all_goals (intro hb hp;try (exfalso;omega))|(with_reducible apply a1R);rfl;rfl;rfl;all_goals (intro hb hp;try (exfalso;omega))|(with_reducible apply d5);rfl;all_goals (intro hb hp;try (exfalso;omega))|(with_reducible apply a1r);rfl;all_goals (intro hb hp;try (exfalso;omega))|(with_reducible apply d6 hS);rfl;rfl;rfl;refine ⟨_,o7 _ _ _ _,?_⟩;clear hS;intro w' hS|(with_reducible apply d6 hS);rfl;rfl;rfl;refine ⟨_,hshe _ (k1.now hS),?_⟩;clear hS;intro w' hS)
   (refine k6 rfl ?_)
   exact ⟨rfl,hS.sub (xj3 _)⟩
  rw [xj4 (⟨hh.1,by omega⟩:0<=hand/\hand < (fr.length:Int)),xq2] at hfe;refine yEn Tryz.func24 Tryz.ntmps24 (by kernel_rfl) (by kernel_rfl) rfl rfl ?_;have hS:=St.start w
  repeat' (first|(with_reducible apply a8 a7);rfl;rfl;rfl|(with_reducible apply a9);rfl;(first|apply Ld.sc a7;rfl;exact hS.blkC 0 rfl rfl|apply Ld.sl a7;rfl;exact hS.blkC 0 rfl rfl);rfl|(with_reducible apply a0h);rfl;rfl;omega;omega;rfl|refine yDn (by with_reducible constructor) ?_|((with_reducible apply j5);(iterate 4 rfl);first|rfl|assumption)|(with_reducible apply f5);rfl;(first|rfl|assumption);rfl;rfl|(with_reducible apply l6 hS);rfl;rfl;rfl;clear hS;intro g w' hS|(with_reducible apply r9);rfl;rfl;rfl;all_goals (intro hb hp;try (exfalso;omega))|(with_reducible apply a1R);rfl;rfl;rfl;all_goals (intro hb hp;try (exfalso;omega))|(with_reducible apply d5);rfl;all_goals (intro hb hp;try (exfalso;omega))|(with_reducible apply a1r);rfl;all_goals (intro hb hp;try (exfalso;omega))|(with_reducible apply d6 hS);rfl;rfl;rfl;refine ⟨_,o7 _ _ _ _,?_⟩;clear hS;intro w' hS|(with_reducible apply d6 hS);rfl;rfl;rfl;refine ⟨_,hshe _ (k1.now hS),?_⟩;clear hS;intro w' hS)
  refine a1v hS 3 [1] rfl sp.length (fun i=>((sp.map (·.s)).take i).all (t7 (shs sh) fr.length sl.length)=true) 0 rfl (xg6 _) rfl ?_;rintro i w1 hi hall hS';clear hS;have hS:=hS';clear hS';by_cases hlt:i < sp.length
  ·obtain ⟨x,hx⟩:=j3 (l:=sp) (i:=i) (by omega);have hxs:(sp.map (·.s))[i]?=some x.s:=c9 (f:=fun p:Sp=>p.s) hx;have hrow:=c9 (f:=spC) hx;obtain ⟨b,off,rfl,hro⟩:=k4.at_ (i:=i) hlt;have hfx:=fun w1 h=>hsf w1 h x (xd0 hx)
   cases hsp:t7 (shs sh) fr.length sl.length x.s with
   |false=>
    rw [hsp] at hfx
    repeat' (first|(with_reducible apply a8 a7);rfl;rfl;rfl|(with_reducible apply a9);rfl;(apply Ld.sl a7;rfl;exact hS.blkC 0 rfl rfl);rfl|refine yDn (by with_reducible constructor) ?_|(with_reducible apply d5);rfl;all_goals (intro hb hp;try (exfalso;omega)))
    (focus ((with_reducible apply d8 _ _ _ (by kernel_rfl) (by kernel_rfl) hS);(repeat' (first|(first|(with_reducible apply i9 a7);rfl;rfl|(with_reducible apply i7);rfl;(intro wd hd;replace hd:St _ _ wd _:=hd;(first|apply Ld.sl a7;rfl;exact hd.blkC 0 rfl rfl|apply Ld.st a7;rfl;(first|exact hd.blkR 0 rfl|exact hd.roR (by assumption) (by assumption));rfl));rfl|(with_reducible apply x7 a7);rfl;rfl;rfl;rfl;omega;rfl)|(with_reducible apply y8);rfl;rfl;rfl;refine ⟨_,fun wd hd=>hfx _ (hK0.now hd),?_⟩));all_goals ((with_reducible apply j7);intro w' hS';clear hS;have hS:=hS';clear hS')))
    repeat' (first|(with_reducible apply a8 a7);rfl;rfl;rfl|refine yDn (by with_reducible constructor) ?_|(with_reducible apply d9);rfl;rfl)
    (refine k6 rfl ?_)
    refine ⟨?_,hS.sub (xj3 _)⟩;have hno:(sp.map (·.s)).all (t7 (shs sh) fr.length sl.length)=false:=by
     rw [xq7];exact ⟨x.s,xd0 hxs,by rw [hsp];simp⟩
    rw [hfe,hno,xq3];rfl
   |true=>
    rw [hsp] at hfx
    repeat' (first|(with_reducible apply a8 a7);rfl;rfl;rfl|(with_reducible apply a9);rfl;(apply Ld.sl a7;rfl;exact hS.blkC 0 rfl rfl);rfl|refine yDn (by with_reducible constructor) ?_|(with_reducible apply d5);rfl;all_goals (intro hb hp;try (exfalso;omega)))
    (focus ((with_reducible apply d8 _ _ _ (by kernel_rfl) (by kernel_rfl) hS);(repeat' (first|(first|(with_reducible apply i9 a7);rfl;rfl|(with_reducible apply i7);rfl;(intro wd hd;replace hd:St _ _ wd _:=hd;(first|apply Ld.sl a7;rfl;exact hd.blkC 0 rfl rfl|apply Ld.st a7;rfl;(first|exact hd.blkR 0 rfl|exact hd.roR (by assumption) (by assumption));rfl));rfl|(with_reducible apply x7 a7);rfl;rfl;rfl;rfl;omega;rfl)|(with_reducible apply y8);rfl;rfl;rfl;refine ⟨_,fun wd hd=>hfx _ (hK0.now hd),?_⟩));all_goals ((with_reducible apply j7);intro w' hS';clear hS;have hS:=hS';clear hS')))
    repeat' (first|(with_reducible apply a8 a7);rfl;rfl;rfl|(with_reducible apply j0);rfl;rfl;omega;omega;rfl|refine yDn (by with_reducible constructor) ?_|(with_reducible apply f6);rfl;rfl)
    refine a0N (i + 1) (by exact Fr.sub_of rfl) (by omega) ?_ (by omega) hS;rw [q9 hxs,List.all_append,hall,xo9,hsp];rfl
  have hspa:(sp.map (·.s)).all (t7 (shs sh) fr.length sl.length)=true:=by
   rw [xa0 (by rw [xj1];omega)] at hall;exact hall
  clear hall;rw [hspa,xq2] at hfe;have hokp:∀ p ∈ sp,t7 (shs sh) fr.length sl.length p.s=true:=fun p hp=>xc7.1 hspa p.s (xm7.2 ⟨p,hp,rfl⟩);have hchk:∀ p ∈ sp,m6 p.s.areas=0:=fun p hp=>(a03.1 (hokp p hp)).ar;have hroom:=fun w1 h=>b4O (w:=w1) (k:=⟨sh,fr,sl,sp,hand,.slice p1 sh.length c1,.slice p2 fr.length c2,.slice p3 sl.length c3,.slice p4 sp.length c4⟩) h hchk (by show sp.length<=4;omega);have hnm:=fun w1 h kd a=>b2d (w:=w1) (k:=⟨sh,fr,sl,sp,hand,.slice p1 sh.length c1,.slice p2 fr.length c2,.slice p3 sl.length c3,.slice p4 sp.length c4⟩) h hchk (by show sp.length<=4;omega) (fun p hp=>(a5f (hokp p hp)).1) kd a;unfold kvC at hroom hnm;dsimp only at hroom hnm;by_cases hrm:(sl.length:Int) < a0i (sp.map (·.s))
  ·rw [xj2 (by omega),xq3] at hfe;rw [hfe]
   repeat' (first|(with_reducible apply a8 a7);rfl;rfl;rfl|(with_reducible apply a9);rfl;(apply Ld.sl a7;rfl;exact hS.blkC 0 rfl rfl);rfl|refine yDn (by with_reducible constructor) ?_|(with_reducible apply d5);rfl;all_goals (intro hb hp;try (exfalso;omega)))
   (focus ((with_reducible apply d8 _ _ _ (by kernel_rfl) (by kernel_rfl) hS);(repeat' (first|(first|(with_reducible apply i9 a7);rfl;rfl|(with_reducible apply i7);rfl;(intro wd hd;replace hd:St _ _ wd _:=hd;(first|apply Ld.sl a7;rfl;exact hd.blkC 0 rfl rfl|apply Ld.st a7;rfl;exact hd.blkR 0 rfl;rfl));rfl)|(with_reducible apply y8);rfl;rfl;rfl;refine ⟨_,fun wd hd=>hroom _ (hK0.now hd),?_⟩));all_goals ((with_reducible apply j7);intro w' hS';clear hS;have hS:=hS';clear hS')))
   repeat' (first|(with_reducible apply a8 a7);rfl;rfl;rfl|refine yDn (by with_reducible constructor) ?_|(with_reducible apply d5);rfl;all_goals (intro hb hp;try (exfalso;omega)))
   (refine k6 rfl ?_)
   exact ⟨rfl,hS.sub (xj3 _)⟩
  rw [xj4 (by omega),xq2] at hfe
  repeat' (first|(with_reducible apply a8 a7);rfl;rfl;rfl|(with_reducible apply a9);rfl;(apply Ld.sl a7;rfl;exact hS.blkC 0 rfl rfl);rfl|refine yDn (by with_reducible constructor) ?_|(with_reducible apply d5);rfl;all_goals (intro hb hp;try (exfalso;omega)))
  (focus ((with_reducible apply d8 _ _ _ (by kernel_rfl) (by kernel_rfl) hS);(repeat' (first|(first|(with_reducible apply i9 a7);rfl;rfl|(with_reducible apply i7);rfl;(intro wd hd;replace hd:St _ _ wd _:=hd;(first|apply Ld.sl a7;rfl;exact hd.blkC 0 rfl rfl|apply Ld.st a7;rfl;exact hd.blkR 0 rfl;rfl));rfl)|(with_reducible apply y8);rfl;rfl;rfl;refine ⟨_,fun wd hd=>hroom _ (hK0.now hd),?_⟩));all_goals ((with_reducible apply j7);intro w' hS';clear hS;have hS:=hS';clear hS')))
  repeat' (first|(with_reducible apply a8 a7);rfl;rfl;rfl|refine yDn (by with_reducible constructor) ?_|(with_reducible apply d5);rfl;all_goals (intro hb hp;try (exfalso;omega)))
  refine a1v hS 4 [1] rfl fr.length (fun i=>∀ (j:Nat) f,j < i->fr[j]?=some f->a1l (shs sh) f (j4 (sp.map (·.s)) 1 (j:Nat))=true) 0 rfl (xg6 _) (fun _ _ h=>absurd h (Nat.not_lt_zero _)) ?_;rintro i w2 hi hall hS';clear hS;have hS:=hS';clear hS';by_cases hlt:i < fr.length
  ·obtain ⟨f,hf⟩:=j3 (l:=fr) (i:=i) (by omega);have hrow:=c9 (f:=fmC) hf;obtain ⟨b,off,rfl,hro⟩:=k2.at_ (i:=i) hlt;unfold fmC at hrow;have hn1:=fun w1 h=>hnm w1 h 1 (i:Nat);obtain ⟨p,q,a,hN,hN2⟩:=a7E (j4 (sp.map (·.s)) 1 (i:Nat));unfold nmV at hn1;rw [hN] at hn1;have hfl:=fun x (hx:a0G (shs sh) a.z p=some x) w1 h=>a6C (w:=w1) (k:=⟨sh,fr,sl,sp,hand,.slice p1 sh.length c1,.slice (some ⟨b,off,none⟩) fr.length c2,.slice p3 sl.length c3,.slice p4 sp.length c4⟩) h (a:=a) (p:=p) (x:=x) hsh hx;unfold kvC at hfl;unfold arC at hn1 hfl;dsimp only at hn1 hfl;have hfn:=fun n (hn:n ∈ j4 (sp.map (·.s)) 1 (i:Nat))=>b0t hspa hn;obtain ⟨N,hNN⟩:∃ N,N=j4 (sp.map (·.s)) 1 (i:Nat):=⟨_,rfl⟩;rw [<- hNN] at hn1 hN2 hfn;obtain ⟨c,hc⟩:∃ c:Int,c=(N.length:Int):=⟨_,rfl⟩;rw [<- hc] at hn1;obtain ⟨dt,rf,dy,sn⟩:=f;dsimp only at hrow;have hfil:=hfl;have heq:=True.intro
   repeat' (first|(with_reducible apply a8 a7);rfl;rfl;rfl|(with_reducible apply a9);rfl;(first|apply Ld.sl a7;rfl;exact hS.blkC 0 rfl rfl|apply Ld.st a7;rfl;(first|exact hS.blkR 1 rfl|exact hS.roR (by assumption) (by assumption));rfl);rfl|(with_reducible apply l9 a7);rfl;rfl;rfl;rfl;omega;rfl|refine yDn (by with_reducible constructor) ?_|(with_reducible apply d7 hS a7);rfl;rfl;rfl;clear hS;intro g w' hS|(with_reducible apply b8 hS a7 (i:=0));(iterate 8 rfl);exact (rfl:_=[_,_,_,_]);clear hS;intro w' hS;simp only [List.set] at hS|(with_reducible apply d5);rfl;all_goals (intro hb hp;try (exfalso;omega))|(with_reducible apply d6 hS);rfl;rfl;rfl;refine ⟨_,hn1 _ (hK0.now hS),?_⟩;clear hS;intro w' hS)
   by_cases hr:rf=c;rotate_left
   ·have hdr:(!decide (rf=c))=true:=by rw [xj2 hr];rfl
    (focus ((with_reducible apply d8 _ _ _ (by kernel_rfl) (by kernel_rfl) hS);(repeat' ((first|(with_reducible apply i9 a7);rfl;rfl|(with_reducible apply i7);rfl;(intro wd hd;replace hd:St _ _ wd _:=hd;(apply Ld.sc a7;rfl;exact hd.blkC 1 rfl rfl));rfl|(first|(with_reducible apply a2p);(iterate 4 rfl);(first|rfl|assumption);rfl|(with_reducible apply a2B);(iterate 5 rfl)|(with_reducible apply t8);rfl;(first|rfl|assumption);rfl;rfl))));all_goals ((with_reducible apply j7);intro w' hS';clear hS;have hS:=hS';clear hS')))
    repeat' (first|(with_reducible apply a8 a7);rfl;rfl;rfl|refine yDn (by with_reducible constructor) ?_|(with_reducible apply d9);rfl;rfl)
    (refine k6 rfl ?_)
    refine ⟨?_,hS.sub (xj3 _)⟩;rw [hfe,a13 hf (by rw [<- hNN,xr1];exact fun h=>hr ((a2o.1 h).refs.trans hc.symm)),xq3];rfl
   have hdr:(!decide (rf=c))=false:=by rw [xj4 hr];rfl
   cases N with
   |nil=>
    have hz:decide (c=0)=true:=xj4 hc;have hgt:decide (0 < c)=false:=xj2 (by rw [hc];simp);by_cases h0:(⟨dt,rf,dy,sn⟩:Fm)=fm0
    ·have heq:=b5l (⟨dt,rf,dy,sn⟩:Fm) fm0;rw [xj4 h0] at heq
     (focus ((with_reducible apply d8 _ _ _ (by kernel_rfl) (by kernel_rfl) hS);(repeat' (first|(first|(with_reducible apply i9 a7);rfl;rfl|(with_reducible apply i7);rfl;(intro wd hd;replace hd:St _ _ wd _:=hd;(first|apply Ld.sc a7;rfl;exact hd.blkC 1 rfl rfl|apply Ld.st a7;rfl;exact hd.blkR 1 rfl;rfl));rfl|(with_reducible apply a1W a7);rfl;rfl;exact (rfl:_=some [_,_,_,_]);rfl|(first|((with_reducible apply a0p);(iterate 4 rfl);first|rfl|assumption)|(with_reducible apply a2p);(iterate 4 rfl);assumption;rfl|(with_reducible apply a2B);(iterate 5 rfl)|(with_reducible apply t8);rfl;assumption;rfl;rfl|(with_reducible apply t2);rfl;(first|rfl|assumption);rfl;rfl))|(with_reducible apply a7f);rfl;rfl;exact heq;rfl));all_goals ((with_reducible apply j7);intro w' hS';clear hS;have hS:=hS';clear hS')))
     repeat' (first|(with_reducible apply a8 a7);rfl;rfl;rfl|(with_reducible apply j0);rfl;rfl;omega;omega;rfl|refine yDn (by with_reducible constructor) ?_|(with_reducible apply f6);rfl;rfl)
     refine a0N (i + 1) (by exact Fr.sub_of rfl) (by omega) (fun j y hj hy=>?_) (by omega) hS.drop.drop;by_cases e:j=i
     ·subst e;rw [hf] at hy
      cases hy
      exact by rw [<- hNN];exact xj4 h0
     ·exact hall j y (by omega) hy
    ·have heq:=b5l (⟨dt,rf,dy,sn⟩:Fm) fm0;rw [xj2 h0] at heq
     (focus ((with_reducible apply d8 _ _ _ (by kernel_rfl) (by kernel_rfl) hS);(repeat' (first|(first|(with_reducible apply i9 a7);rfl;rfl|(with_reducible apply i7);rfl;(intro wd hd;replace hd:St _ _ wd _:=hd;(first|apply Ld.sc a7;rfl;exact hd.blkC 1 rfl rfl|apply Ld.st a7;rfl;exact hd.blkR 1 rfl;rfl));rfl|(with_reducible apply a1W a7);rfl;rfl;exact (rfl:_=some [_,_,_,_]);rfl|(first|(with_reducible apply a0p);(iterate 4 rfl);assumption|(with_reducible apply a2p);(iterate 4 rfl);rfl;rfl|(with_reducible apply a2B);(iterate 5 rfl)|(with_reducible apply t8);rfl;(first|rfl|assumption);rfl;rfl|(with_reducible apply t2);rfl;assumption;rfl;rfl))|(with_reducible apply a7f);rfl;rfl;exact heq;rfl));all_goals ((with_reducible apply j7);intro w' hS';clear hS;have hS:=hS';clear hS')))
     repeat' (first|(with_reducible apply a8 a7);rfl;rfl;rfl|refine yDn (by with_reducible constructor) ?_|(with_reducible apply d9);rfl;rfl)
     (refine k6 rfl ?_)
     refine ⟨?_,hS.sub (xj3 _)⟩;rw [hfe,a13 hf (by rw [<- hNN];exact xj2 h0),xq3];rfl
   |cons n0 r=>
    rw [xb1] at hc;have hz:decide (c=0)=false:=xj2 (by omega);have hgt:decide (0 < c)=true:=xj4 (by omega);obtain ⟨hq1,hq2⟩:=hN2 n0 r rfl
    cases hal:a0M (n0::r) with
    |false=>
     rw [hal] at hq1;subst hq1
     (focus ((with_reducible apply d8 _ _ _ (by kernel_rfl) (by kernel_rfl) hS);(repeat' ((first|(with_reducible apply i9 a7);rfl;rfl|(with_reducible apply i7);rfl;(intro wd hd;replace hd:St _ _ wd _:=hd;(apply Ld.sc a7;rfl;exact hd.blkC 1 rfl rfl));rfl|(first|((with_reducible apply a0p);(iterate 4 rfl);first|rfl|assumption)|(with_reducible apply a2p);(iterate 4 rfl);(first|rfl|assumption);rfl|(with_reducible apply a2B);(iterate 5 rfl)|(with_reducible apply t8);rfl;(first|rfl|assumption);rfl;rfl|(with_reducible apply t2);rfl;(first|rfl|assumption);rfl;rfl))));all_goals ((with_reducible apply j7);intro w' hS';clear hS;have hS:=hS';clear hS')))
     repeat' (first|(with_reducible apply a8 a7);rfl;rfl;rfl|refine yDn (by with_reducible constructor) ?_|(with_reducible apply d9);rfl;rfl)
     (refine k6 rfl ?_)
     refine ⟨?_,hS.sub (xj3 _)⟩;rw [hfe,a13 hf (by rw [<- hNN,xr1];intro h;rw [a27.2 (a2o.1 h).same] at hal;cases hal),xq3];rfl
    |true=>
     obtain ⟨rfl,hza⟩:=hq2 hal;rw [hal] at hq1;subst hq1;by_cases hl:(dt.length:Int)=16;rotate_left
     ·have hdl:(!decide ((dt.length:Int)=16))=true:=by rw [xj2 hl];rfl
      (focus ((with_reducible apply d8 _ _ _ (by kernel_rfl) (by kernel_rfl) hS);(repeat' ((first|(with_reducible apply i9 a7);rfl;rfl|(with_reducible apply i7);rfl;(intro wd hd;replace hd:St _ _ wd _:=hd;(apply Ld.sc a7;rfl;exact hd.blkC 1 rfl rfl));rfl|(first|((with_reducible apply a0p);(iterate 4 rfl);first|rfl|assumption)|(with_reducible apply a2p);(iterate 4 rfl);assumption;rfl|(with_reducible apply a2B);(iterate 5 rfl)|(with_reducible apply t8);rfl;assumption;rfl;rfl|(with_reducible apply t2);rfl;(first|rfl|assumption);rfl;rfl))));all_goals ((with_reducible apply j7);intro w' hS';clear hS;have hS:=hS';clear hS')))
      repeat' (first|(with_reducible apply a8 a7);rfl;rfl;rfl|refine yDn (by with_reducible constructor) ?_|(with_reducible apply d9);rfl;rfl)
      (refine k6 rfl ?_)
      refine ⟨?_,hS.sub (xj3 _)⟩;rw [hfe,a13 hf (by rw [<- hNN,xr1];exact fun h=>hl (by rw [(a2o.1 h).len (by simp)];rfl)),xq3];rfl
     have hdl:(!decide ((dt.length:Int)=16))=false:=by rw [xj4 hl];rfl
     have hbase:∀ c:Bool,a1l (shs sh) ⟨dt,rf,dy,sn⟩ (n0::r)=(decide (rf=((n0::r).length:Int)/\dt.length=16) && (a0M (n0::r) && (dy||decide (some dt=a0G (shs sh) n0.2.z n0.1.page)))):=fun _=>rfl;have hbase:=hbase true;rw [hal,xj4 (⟨hr.trans hc,by omega⟩:rf=((n0::r).length:Int)/\dt.length=16),xq2,xq2] at hbase
     cases dy with
     |true=>
      (focus ((with_reducible apply d8 _ _ _ (by kernel_rfl) (by kernel_rfl) hS);(repeat' ((first|(with_reducible apply i9 a7);rfl;rfl|(with_reducible apply i7);rfl;(intro wd hd;replace hd:St _ _ wd _:=hd;(apply Ld.sc a7;rfl;exact hd.blkC 1 rfl rfl));rfl|(first|((with_reducible apply a0p);(iterate 4 rfl);first|rfl|assumption)|(with_reducible apply a2p);(iterate 4 rfl);(first|rfl|assumption);rfl|(with_reducible apply t8);rfl;assumption;rfl;rfl|(with_reducible apply t2);rfl;(first|rfl|assumption);rfl;rfl))));all_goals ((with_reducible apply j7);intro w' hS';clear hS;have hS:=hS';clear hS')))
      repeat' (first|(with_reducible apply a8 a7);rfl;rfl;rfl|(with_reducible apply j0);rfl;rfl;omega;omega;rfl|refine yDn (by with_reducible constructor) ?_|(with_reducible apply f6);rfl;rfl)
      refine a0N (i + 1) (by exact Fr.sub_of rfl) (by omega) (fun j y hj hy=>?_) (by omega) hS.drop.drop;by_cases e:j=i
      ·subst e;rw [hf] at hy
       cases hy
       exact by rw [<- hNN];exact hbase
      ·exact hall j y (by omega) hy
     |false=>
      obtain ⟨x,hx⟩:=hfn n0 xc5;rw [hx,xo4] at hbase;have hfil:=hfl x (by rw [hza];exact hx);by_cases hxd:dt=x
      ·have hdx:(!decide (dt=x))=false:=by rw [xj4 hxd];rfl
       (focus ((with_reducible apply d8 _ _ _ (by kernel_rfl) (by kernel_rfl) hS);(repeat' (first|(first|(with_reducible apply i9 a7);rfl;rfl|(with_reducible apply i7);rfl;(intro wd hd;replace hd:St _ _ wd _:=hd;(first|apply Ld.sc a7;rfl;exact hd.blkC 1 rfl rfl|apply Ld.st a7;rfl;(first|exact hd.blkR 0 rfl|exact hd.blkR 2 rfl);rfl));rfl|(first|((with_reducible apply a0p);(iterate 4 rfl);first|rfl|assumption)|(with_reducible apply a2p);(iterate 4 rfl);assumption;rfl|(with_reducible apply t8);rfl;(first|rfl|assumption);rfl;rfl|(with_reducible apply t2);rfl;(first|rfl|assumption);rfl;rfl))|(with_reducible apply y8);rfl;rfl;rfl;refine ⟨_,fun wd hd=>hfil _ (hK0.now hd),?_⟩));all_goals ((with_reducible apply j7);intro w' hS';clear hS;have hS:=hS';clear hS')))
       repeat' (first|(with_reducible apply a8 a7);rfl;rfl;rfl|(with_reducible apply j0);rfl;rfl;omega;omega;rfl|refine yDn (by with_reducible constructor) ?_|(with_reducible apply f6);rfl;assumption)
       refine a0N (i + 1) (by exact Fr.sub_of rfl) (by omega) (fun j y hj hy=>?_) (by omega) hS.drop.drop;by_cases e:j=i
       ·subst e;rw [hf] at hy
        cases hy
        exact by rw [<- hNN,hbase];exact xj4 (by rw [hxd])
       ·exact hall j y (by omega) hy
      ·have hdx:(!decide (dt=x))=true:=by rw [xj2 hxd];rfl
       (focus ((with_reducible apply d8 _ _ _ (by kernel_rfl) (by kernel_rfl) hS);(repeat' (first|(first|(with_reducible apply i9 a7);rfl;rfl|(with_reducible apply i7);rfl;(intro wd hd;replace hd:St _ _ wd _:=hd;(first|apply Ld.sc a7;rfl;exact hd.blkC 1 rfl rfl|apply Ld.st a7;rfl;(first|exact hd.blkR 0 rfl|exact hd.blkR 2 rfl);rfl));rfl|(first|((with_reducible apply a0p);(iterate 4 rfl);first|rfl|assumption)|(with_reducible apply a2p);(iterate 4 rfl);assumption;rfl|(with_reducible apply t8);rfl;(first|rfl|assumption);rfl;rfl|(with_reducible apply t2);rfl;(first|rfl|assumption);rfl;rfl))|(with_reducible apply y8);rfl;rfl;rfl;refine ⟨_,fun wd hd=>hfil _ (hK0.now hd),?_⟩));all_goals ((with_reducible apply j7);intro w' hS';clear hS;have hS:=hS';clear hS')))
       repeat' (first|(with_reducible apply a8 a7);rfl;rfl;rfl|refine yDn (by with_reducible constructor) ?_|(with_reducible apply d9);rfl;assumption)
       (refine k6 rfl ?_)
       refine ⟨?_,hS.sub (xj3 _)⟩;rw [hfe,a13 hf (by rw [<- hNN,hbase];exact xj2 (fun h=>hxd (Option.some.inj h))),xq3];rfl
  have hfb:a0Y ⟨shs sh,fr,sl,sp.map (·.s),hand⟩=true:=b0a (fun j f hf=>hall j f (by have:=b9 hf;have h9:(⟨shs sh,fr,sl,sp.map (·.s),hand⟩:Ker).frames.length=fr.length:=rfl;omega) hf);clear hall;rw [hfb,xq2] at hfe
  repeat' (first|(with_reducible apply a8 a7);rfl;rfl;rfl|(with_reducible apply a9);rfl;(apply Ld.sl a7;rfl;exact hS.blkC 0 rfl rfl);rfl|refine yDn (by with_reducible constructor) ?_|(with_reducible apply d5);rfl;all_goals (intro hb hp;try (exfalso;omega)))
  refine a1v hS 10 [1] rfl sl.length (fun i=>∀ (j:Nat) f,j < i->sl[j]?=some f->a10 f (j4 (sp.map (·.s)) 2 (j:Nat))=true) 0 rfl (xg6 _) (fun _ _ h=>absurd h (Nat.not_lt_zero _)) ?_;rintro i w3 hi hall hS';clear hS;have hS:=hS';clear hS';by_cases hlt:i < sl.length;rotate_left
  ·rw [b14 (fun j f hf=>hall j f (by have:=b9 hf;have h9:(⟨shs sh,fr,sl,sp.map (·.s),hand⟩:Ker).slots.length=sl.length:=rfl;omega) hf)] at hfe;rw [hfe]
   repeat' (first|(with_reducible apply a8 a7);rfl;rfl;rfl|(with_reducible apply a9);rfl;(apply Ld.sl a7;rfl;exact hS.blkC 0 rfl rfl);rfl|refine yDn (by with_reducible constructor) ?_|(with_reducible apply d5);rfl;all_goals (intro hb hp;try (exfalso;omega)))
   (refine k6 rfl ?_)
   exact ⟨rfl,hS.sub (xj3 _)⟩
  obtain ⟨f,hf⟩:=j3 (l:=sl) (i:=i) (by omega);have hrow:=c9 (f:=swC) hf;obtain ⟨b,off,rfl,hro⟩:=k3.at_ (i:=i) hlt;unfold swC at hrow;have hn1:=fun w1 h=>hnm w1 h 2 (i:Nat);obtain ⟨p,q,a,hN,hN2⟩:=a7E (j4 (sp.map (·.s)) 2 (i:Nat));unfold nmV at hn1;rw [hN] at hn1;unfold arC at hn1;dsimp only at hn1;obtain ⟨N,hNN⟩:∃ N,N=j4 (sp.map (·.s)) 2 (i:Nat):=⟨_,rfl⟩;rw [<- hNN] at hn1 hN2;obtain ⟨c,hc⟩:∃ c:Int,c=(N.length:Int):=⟨_,rfl⟩;rw [<- hc] at hn1;obtain ⟨dt,rf⟩:=f;dsimp only at hrow;have heq:=True.intro;by_cases hr:rf=c;rotate_left
  ·have hdr:(!decide (rf=c))=true:=by rw [xj2 hr];rfl
   repeat' (first|(with_reducible apply a8 a7);rfl;rfl;rfl|(with_reducible apply a9);rfl;(first|apply Ld.sc a7;rfl;exact hS.blkC 1 rfl rfl|apply Ld.sl a7;rfl;exact hS.blkC 0 rfl rfl|apply Ld.st a7;rfl;(first|exact hS.blkR 1 rfl|exact hS.roR (by assumption) (by assumption));rfl);rfl|(with_reducible apply l9 a7);rfl;rfl;rfl;rfl;omega;rfl|refine yDn (by with_reducible constructor) ?_|(with_reducible apply s9);(iterate 4 rfl);(first|rfl|assumption);rfl|(with_reducible apply a07);(iterate 5 rfl)|(with_reducible apply e9);rfl;(first|rfl|assumption);rfl;rfl|(with_reducible apply d9);rfl;rfl|(with_reducible apply d7 hS a7);rfl;rfl;rfl;clear hS;intro g w' hS|(with_reducible apply b8 hS a7 (i:=0));(iterate 8 rfl);(first|exact (rfl:_=[_,_])|exact (rfl:_=[_,_,_,_]));clear hS;intro w' hS;simp only [List.set] at hS|(with_reducible apply d5);rfl;all_goals (intro hb hp;try (exfalso;omega))|(with_reducible apply d6 hS);rfl;rfl;rfl;refine ⟨_,hn1 _ (hK0.now hS),?_⟩;clear hS;intro w' hS)
   (refine k6 rfl ?_)
   refine ⟨?_,hS.sub (xj3 _)⟩;rw [hfe,a3d hf (by rw [<- hNN,xr1];exact fun h=>hr ((a2P.1 h).refs.trans hc.symm))];rfl
  have hdr:(!decide (rf=c))=false:=by rw [xj4 hr];rfl
  cases N with
  |nil=>
   have hz:decide (c=0)=true:=xj4 hc;have hgt:decide (0 < c)=false:=xj2 (by rw [hc];simp);by_cases h0:(⟨dt,rf⟩:Sw)=sw0
   ·have heq:=b4c (⟨dt,rf⟩:Sw) sw0;rw [xj4 h0] at heq
    repeat' (first|(with_reducible apply a8 a7);rfl;rfl;rfl|(with_reducible apply a9);rfl;(first|apply Ld.sc a7;rfl;exact hS.blkC 1 rfl rfl|apply Ld.sl a7;rfl;exact hS.blkC 0 rfl rfl|apply Ld.st a7;rfl;(first|exact hS.blkR 1 rfl|exact hS.roR (by assumption) (by assumption));rfl);rfl|(with_reducible apply l9 a7);rfl;rfl;rfl;rfl;omega;rfl|(with_reducible apply j0);rfl;rfl;omega;omega;rfl|(with_reducible apply l4 a7);rfl;rfl;exact (rfl:_=some [_,_]);rfl|refine yDn (by with_reducible constructor) ?_|((with_reducible apply j5);(iterate 4 rfl);first|rfl|assumption)|(with_reducible apply s9);(iterate 4 rfl);assumption;rfl|(with_reducible apply a07);(iterate 5 rfl)|(with_reducible apply e9);rfl;assumption;rfl;rfl|(with_reducible apply f5);rfl;(first|rfl|assumption);rfl;rfl|(with_reducible apply f6);rfl;rfl|(with_reducible apply d7 hS a7);rfl;rfl;rfl;clear hS;intro g w' hS|(with_reducible apply b8 hS a7 (i:=0));(iterate 8 rfl);(first|exact (rfl:_=[_,_])|exact (rfl:_=[_,_,_,_]));clear hS;intro w' hS;simp only [List.set] at hS|(with_reducible apply d5);rfl;all_goals (intro hb hp;try (exfalso;omega))|(with_reducible apply d6 hS);rfl;rfl;rfl;refine ⟨_,hn1 _ (hK0.now hS),?_⟩;clear hS;intro w' hS|(with_reducible apply b1g);rfl;rfl;exact heq;rfl)
    refine a0N (i + 1) (by exact Fr.sub_of rfl) (by omega) (fun j y hj hy=>?_) (by omega) hS.drop.drop;by_cases e:j=i
    ·subst e;rw [hf] at hy
     cases hy
     exact by rw [<- hNN];exact xj4 h0
    ·exact hall j y (by omega) hy
   ·have heq:=b4c (⟨dt,rf⟩:Sw) sw0;rw [xj2 h0] at heq
    repeat' (first|(with_reducible apply a8 a7);rfl;rfl;rfl|(with_reducible apply a9);rfl;(first|apply Ld.sc a7;rfl;exact hS.blkC 1 rfl rfl|apply Ld.sl a7;rfl;exact hS.blkC 0 rfl rfl|apply Ld.st a7;rfl;(first|exact hS.blkR 1 rfl|exact hS.roR (by assumption) (by assumption));rfl);rfl|(with_reducible apply l9 a7);rfl;rfl;rfl;rfl;omega;rfl|(with_reducible apply l4 a7);rfl;rfl;exact (rfl:_=some [_,_]);rfl|refine yDn (by with_reducible constructor) ?_|(with_reducible apply j5);(iterate 4 rfl);assumption|(with_reducible apply s9);(iterate 4 rfl);rfl;rfl|(with_reducible apply a07);(iterate 5 rfl)|(with_reducible apply e9);rfl;(first|rfl|assumption);rfl;rfl|(with_reducible apply f5);rfl;assumption;rfl;rfl|(with_reducible apply d9);rfl;rfl|(with_reducible apply d7 hS a7);rfl;rfl;rfl;clear hS;intro g w' hS|(with_reducible apply b8 hS a7 (i:=0));(iterate 8 rfl);(first|exact (rfl:_=[_,_])|exact (rfl:_=[_,_,_,_]));clear hS;intro w' hS;simp only [List.set] at hS|(with_reducible apply d5);rfl;all_goals (intro hb hp;try (exfalso;omega))|(with_reducible apply d6 hS);rfl;rfl;rfl;refine ⟨_,hn1 _ (hK0.now hS),?_⟩;clear hS;intro w' hS|(with_reducible apply b1g);rfl;rfl;exact heq;rfl)
    (refine k6 rfl ?_)
    refine ⟨?_,hS.sub (xj3 _)⟩;rw [hfe,a3d hf (by rw [<- hNN];exact xj2 h0)];rfl
  |cons n0 r=>
   rw [xb1] at hc;have hz:decide (c=0)=false:=xj2 (by omega);have hgt:decide (0 < c)=true:=xj4 (by omega);obtain ⟨hq1,hq2⟩:=hN2 n0 r rfl
   cases hal:a0M (n0::r) with
   |false=>
    rw [hal] at hq1;subst hq1
    repeat' (first|(with_reducible apply a8 a7);rfl;rfl;rfl|(with_reducible apply a9);rfl;(first|apply Ld.sc a7;rfl;exact hS.blkC 1 rfl rfl|apply Ld.sl a7;rfl;exact hS.blkC 0 rfl rfl|apply Ld.st a7;rfl;(first|exact hS.blkR 1 rfl|exact hS.roR (by assumption) (by assumption));rfl);rfl|(with_reducible apply l9 a7);rfl;rfl;rfl;rfl;omega;rfl|refine yDn (by with_reducible constructor) ?_|((with_reducible apply j5);(iterate 4 rfl);first|rfl|assumption)|(with_reducible apply s9);(iterate 4 rfl);(first|rfl|assumption);rfl|(with_reducible apply e9);rfl;(first|rfl|assumption);rfl;rfl|(with_reducible apply f5);rfl;(first|rfl|assumption);rfl;rfl|(with_reducible apply d9);rfl;rfl|(with_reducible apply d7 hS a7);rfl;rfl;rfl;clear hS;intro g w' hS|(with_reducible apply b8 hS a7 (i:=0));(iterate 8 rfl);(first|exact (rfl:_=[_,_])|exact (rfl:_=[_,_,_,_]));clear hS;intro w' hS;simp only [List.set] at hS|(with_reducible apply d5);rfl;all_goals (intro hb hp;try (exfalso;omega))|(with_reducible apply d6 hS);rfl;rfl;rfl;refine ⟨_,hn1 _ (hK0.now hS),?_⟩;clear hS;intro w' hS)
    (refine k6 rfl ?_)
    refine ⟨?_,hS.sub (xj3 _)⟩;rw [hfe,a3d hf (by rw [<- hNN,xr1];intro h;rw [a27.2 (a2P.1 h).same] at hal;cases hal)];rfl
   |true=>
    rw [hal] at hq1;subst hq1;by_cases hl:(dt.length:Int)=16;rotate_left
    ·have hdl:(!decide ((dt.length:Int)=16))=true:=by rw [xj2 hl];rfl
     repeat' (first|(with_reducible apply a8 a7);rfl;rfl;rfl|(with_reducible apply a9);rfl;(first|apply Ld.sc a7;rfl;exact hS.blkC 1 rfl rfl|apply Ld.sl a7;rfl;exact hS.blkC 0 rfl rfl|apply Ld.st a7;rfl;(first|exact hS.blkR 1 rfl|exact hS.roR (by assumption) (by assumption));rfl);rfl|(with_reducible apply l9 a7);rfl;rfl;rfl;rfl;omega;rfl|refine yDn (by with_reducible constructor) ?_|((with_reducible apply j5);(iterate 4 rfl);first|rfl|assumption)|(with_reducible apply s9);(iterate 4 rfl);assumption;rfl|(with_reducible apply e9);rfl;assumption;rfl;rfl|(with_reducible apply f5);rfl;(first|rfl|assumption);rfl;rfl|(with_reducible apply d9);rfl;assumption|(with_reducible apply d7 hS a7);rfl;rfl;rfl;clear hS;intro g w' hS|(with_reducible apply b8 hS a7 (i:=0));(iterate 8 rfl);(first|exact (rfl:_=[_,_])|exact (rfl:_=[_,_,_,_]));clear hS;intro w' hS;simp only [List.set] at hS|(with_reducible apply d5);rfl;all_goals (intro hb hp;try (exfalso;omega))|(with_reducible apply d6 hS);rfl;rfl;rfl;refine ⟨_,hn1 _ (hK0.now hS),?_⟩;clear hS;intro w' hS)
     (refine k6 rfl ?_)
     refine ⟨?_,hS.sub (xj3 _)⟩;rw [hfe,a3d hf (by rw [<- hNN,xr1];exact fun h=>hl (by rw [(a2P.1 h).len (by simp)];rfl))];rfl
    have hdl:(!decide ((dt.length:Int)=16))=false:=by rw [xj4 hl];rfl
    have hbase:a10 ⟨dt,rf⟩ (n0::r)=(decide (rf=((n0::r).length:Int)/\dt.length=16) && a0M (n0::r)):=rfl;rw [hal,xj4 (⟨hr.trans hc,by omega⟩:rf=((n0::r).length:Int)/\dt.length=16),xq2] at hbase
    repeat' (first|(with_reducible apply a8 a7);rfl;rfl;rfl|(with_reducible apply a9);rfl;(first|apply Ld.sc a7;rfl;exact hS.blkC 1 rfl rfl|apply Ld.sl a7;rfl;exact hS.blkC 0 rfl rfl|apply Ld.st a7;rfl;(first|exact hS.blkR 1 rfl|exact hS.roR (by assumption) (by assumption));rfl);rfl|(with_reducible apply l9 a7);rfl;rfl;rfl;rfl;omega;rfl|(with_reducible apply j0);rfl;rfl;omega;omega;rfl|refine yDn (by with_reducible constructor) ?_|((with_reducible apply j5);(iterate 4 rfl);first|rfl|assumption)|(with_reducible apply s9);(iterate 4 rfl);assumption;rfl|(with_reducible apply e9);rfl;assumption;rfl;rfl|(with_reducible apply f5);rfl;(first|rfl|assumption);rfl;rfl|(with_reducible apply f6);rfl;assumption|(with_reducible apply d7 hS a7);rfl;rfl;rfl;clear hS;intro g w' hS|(with_reducible apply b8 hS a7 (i:=0));(iterate 8 rfl);(first|exact (rfl:_=[_,_])|exact (rfl:_=[_,_,_,_]));clear hS;intro w' hS;simp only [List.set] at hS|(with_reducible apply d5);rfl;all_goals (intro hb hp;try (exfalso;omega))|(with_reducible apply d6 hS);rfl;rfl;rfl;refine ⟨_,hn1 _ (hK0.now hS),?_⟩;clear hS;intro w' hS)
    refine a0N (i + 1) (by exact Fr.sub_of rfl) (by omega) (fun j y hj hy=>?_) (by omega) hS.drop.drop;by_cases e:j=i
    ·subst e;rw [hf] at hy
     cases hy
     exact by rw [<- hNN];exact hbase
    ·exact hall j y (by omega) hy
theorem a6O:∀ {l:List Int} {lo hi:Int},Rises l->(∀ p ∈ l,lo<=p/\p < hi)->lo<=hi->(l.length:Int)<=hi - lo
 |[],lo,hi,_,_,h=>by simp;omega
 |p::l,lo,hi,hr,hp,h=>by
  have h1:=hp p xc5;have ih:=a6O (l:=l) (lo:=p + 1) (hi:=hi) (xd7.1 hr).2 (fun q hq=>⟨by have:=(xd7.1 hr).1 q hq;omega,(hp q (xc6 _ hq)).2⟩) (by omega);rw [xb1];omega
theorem a4G {α:Type} (p:α->Bool):∀ (l:List α),l.length=(l.filter p).length + (l.filter fun x=>!p x).length
 |[]=>rfl
 |x::l=>by
  have ih:=a4G p l
  cases hx:p x with
  |true=>
   rw [xk8 hx,xl0 (by simp [hx]),xb1,xb1];omega
  |false=>
   rw [xl0 (by simp [hx]),xk8 (by simp [hx]),xb1,xb1];omega
theorem a5r {α:Type} (p q:α->Bool):∀ (l:List α),(∀ x ∈ l,¬(p x=true/\q x=true))->(l.filter fun x=>p x||q x).length=(l.filter p).length + (l.filter q).length
 |[],_=>rfl
 |x::l,h=>by
  have ih:=a5r p q l (fun y hy=>h y (xc6 _ hy));have hx:=h x xc5
  cases h1:p x with
  |true=>
   have h2:q x=false:=by simpa [h1] using hx
   rw [xk8 (by simp [h1]),xk8 h1,xl0 (by simp [h2]),xb1,xb1];omega
  |false=>
   cases h2:q x with
   |true=>
    rw [xk8 (by simp [h2]),xl0 (by simp [h1]),xk8 h2,xb1,xb1];omega
   |false=>
    rw [xl0 (by simp [h1,h2]),xl0 (by simp [h1]),xl0 (by simp [h2])];omega
theorem a7c:∀ {A:List Ar} {e0:Int},x8 e0 A->∀ {l:List Int},Rises l->(∀ p ∈ l,(o9 A p).isSome=true)->(l.length:Int)<=a0s A
 |[],_,_,l,_,h=>by
  cases l with
  |nil=>simp [a0s]
  |cons p l=>have:=h p xc5;simp [o9] at this
 |a::A,e0,hA,l,hr,h=>by
  obtain ⟨h1,h2,h3⟩:=hA;have hok:=h1;unfold Ar.ok at hok;have hlt:∀ b ∈ A,a.fin<=b.pg:=fun b hb=>(a5u h3 b hb).1;rw [a4G (fun p=>decide (p < a.fin)) l];have c1:=a6O (l:=l.filter fun p=>decide (p < a.fin)) (lo:=a.pg) (hi:=a.fin) (hr.sublist (List.filter_sublist)) (fun p hp=>by
   rw [xp0,xb3] at hp;refine ⟨?_,hp.2⟩;have hs:=h p hp.1;unfold o9 at hs;by_cases hb:a0a p a=true
   ·unfold a0a at hb;rw [xb3] at hb;exact hb.1
   ·rw [xq9 hb] at hs;obtain ⟨b,hbb⟩:=xi4.1 hs;have h4:=hlt b (xi3 hbb);have h5:=xi5 hbb;unfold a0a at h5;rw [xb3] at h5;omega) (by unfold Ar.fin;omega)
  have c2:=a7c h3 (l:=l.filter fun p=>!decide (p < a.fin)) (hr.sublist (List.filter_sublist)) (fun p hp=>by
   rw [xp0,xc8,xq4] at hp;have hs:=h p hp.1;unfold o9 at hs |-;rw [xq9] at hs
   ·exact hs
   ·unfold a0a;rw [xb3];omega)
  unfold Ar.fin at c1;show _<=a.n + a0s A;unfold Ar.fin at c2 |-
  push_cast
  omega
theorem b4b {sh:List Sh} {nf ns:Int} {s:Sc} (h:a93 sh nf ns s):(s.entries.length:Int)<=a0s s.areas:=by
 have:=a7c (t6.1 h.ar).2.1 h.rises (fun p hp=>by
  obtain ⟨e,he,rfl⟩:=xm7.1 hp;exact (h.ents e he).1)
 unfold j8 at this
 rwa [xj1] at this
theorem a6H {sh:List Sh} {nf ns:Int}:∀ {L:List Sc},(∀ s ∈ L,a93 sh nf ns s)->((a0F L).length:Int)<=a0i L
 |[],_=>by simp [a0F,a0i]
 |s::L,h=>by
  have h1:=b4b (h s xc5);have h2:=a6H (L:=L) (fun x hx=>h x (xc6 _ hx));have e1:a0F (s::L)=s.entries.map (a0P s)++a0F L:=by unfold a0F;simp
  have e2:a0i (s::L)=a0s s.areas + a0i L:=by unfold a0i;simp
  rw [e1,e2,xe9,xj1];omega
theorem a87 (X:List Nm):∀ (n:Nat),(∀ i:Nat,i < n->X.filter (fun (m:Nm)=>decide (m.1.kind=2/\m.1.at_=((i:Nat):Int)))≠[])->n<=(X.filter fun (m:Nm)=>decide (m.1.kind=2/\0<=m.1.at_/\m.1.at_ < ((n:Nat):Int))).length
 |0,_=>xg6 _
 |n + 1,h=>by
  have ih:=a87 X n (fun i hi=>h i (by omega));have hn:=xa3.2 (h n (by omega));have e:(X.filter fun (m:Nm)=>decide (m.1.kind=2/\0<=m.1.at_/\m.1.at_ < ((n + 1:Nat):Int)))=X.filter (fun (m:Nm)=>(decide (m.1.kind=2/\0<=m.1.at_/\m.1.at_ < ((n:Nat):Int)))||decide (m.1.kind=2/\m.1.at_=((n:Nat):Int))):=by
   refine congrArg (fun p=>List.filter p X) (funext fun m=>?_);rw [xc9,xo3,xb3,xb3,xb3];omega
  rw [e,a5r _ _ _ (fun x _=>by rw [xb3,xb3];omega)];omega
theorem a9Y {α:Type} (p q:α->Bool) (l:List α) (h:∀ x ∈ l,¬(p x=true/\q x=true)):(l.filter p).length + (l.filter q).length<=l.length:=by
 rw [<- a5r p q l h];exact xn5 _ _
theorem a73 {K:Ker} (h:Right K) {f:Nat} (hf:f < K.frames.length) (hr:(k9 K.frames f).refs≠0):∃ t,a17 K.slots=some t:=by
 cases hfs:a17 K.slots with
 |some t=>exact ⟨t,rfl⟩
 |none=>
  exfalso;have hno:=b0j hfs;have hroom:=a6H (L:=K.spaces) (fun s hs=>a03.1 (h.spaces s hs));have h1:=h.room;have hc:=a87 (a0F K.spaces) K.slots.length (fun i hi=>by
   rw [a1b];intro e;have:=h.sl i _ (xe1 hi);rw [e] at this;exact hno _ (xe2 hi) this.refs)
  have hff:=xe1 hf;have h2:=h.fr f _ hff;rw [o3 hff] at hr;have h3:(j4 K.spaces 1 (f:Nat)).length≠0:=fun e=>hr (by rw [h2.refs,e];rfl);rw [<- a1b] at h3;have h4:=a9Y (fun (m:Nm)=>decide (m.1.kind=2/\0<=m.1.at_/\m.1.at_ < ((K.slots.length:Nat):Int))) (fun (n:Nm)=>decide (n.1.kind=1/\n.1.at_=((f:Nat):Int))) (a0F K.spaces) (fun x _=>by rw [xb3,xb3];omega);omega
def a76 (l:List Fm):Nat:=l.countP fun f=>f.seen
def a8a (n h:Nat) (held:List Nat):Nat:=if h ∈ held then (if v9 n h ∈ held then 2 else 1) else 0
def a0L (fr:List Fm) (h:Nat) (held:List Nat):Nat:=3 * a76 fr + a8a fr.length h held
theorem a6x {n h:Nat} (hn:h < n):v9 n h < n:=by unfold v9;split <;> omega
theorem a2v (n h:Nat) (held:List Nat):a8a n h held<=2:=by unfold a8a;split <;> (try split) <;> omega
theorem a4o {n h:Nat} {held:List Nat} (h3:3<=n) (hn:h < n) (hl:held.length<=2) (hh:h ∈ held):a8a n (v9 n h) held < a8a n h held:=by
 unfold a8a;rw [xf0 hh];by_cases h1:v9 n h ∈ held
 ·rw [xf0 h1,xf0 h1,xf1]
  ·omega
  ·intro h2;have hnd:[h,v9 n h,v9 n (v9 n h)].Nodup:=by
    have e1:h≠v9 n h:=by unfold v9;split <;> omega
    have e2:h≠v9 n (v9 n h):=by unfold v9;split <;> split <;> omega
    have e3:v9 n h≠v9 n (v9 n h):=by unfold v9;split <;> split <;> omega
    simp [e1,e2,e3]
   have:=a5i hnd (m:=held) (fun x hx=>by
    rcases xc4.1 hx with rfl|hx
    ·exact hh
    rcases xc4.1 hx with rfl|hx
    ·exact h1
    rcases xc4.1 hx with rfl|hx
    ·exact h2
    ·cases hx)
   simp at this;omega
 ·rw [xf1 h1,xf1 h1];omega
theorem a3V:∀ {l:List Fm} {i:Nat} {f x:Fm},l[i]?=some f->f.seen=true->x.seen=false->a76 (l.set i x) + 1=a76 l
 |[],_,_,_,h,_,_=>by simp at h
 |a::l,0,f,x,h,hf,hx=>by
  simp at h;subst h;unfold a76;rw [xf9,List.countP_cons_of_pos hf,List.countP_cons_of_neg (by simp [hx])]
 |a::l,i + 1,f,x,h,hf,hx=>by
  have ih:=a3V (l:=l) (i:=i) (by simpa using h) hf hx;unfold a76 at ih |-;rw [List.set_cons_succ,List.countP_cons,List.countP_cons];omega
def b0J (a b:Fm):Prop:=a.data=b.data/\a.refs=b.refs/\a.dirty=b.dirty
theorem a22 {l:List Fm} {i j:Nat} {x:Fm}:k9 (l.set i x) j=if i=j/\j < l.length then x else k9 l j:=by
 unfold k9;rw [xe0];by_cases e:i=j
 ·subst e;rw [xf0 rfl];by_cases h:i < l.length
  ·rw [xf0 h,xf0 ⟨rfl,h⟩];rfl
  ·rw [xf1 h,xf1 (fun hh=>h hh.2),xi0 (by omega)]
 ·rw [xf1 e,xf1 (fun hh=>e hh.1)]
theorem a64 {l:List Sw} {i j:Nat} {x:Sw}:a0I (l.set i x) j=if i=j/\j < l.length then x else a0I l j:=by
 unfold a0I;rw [xe0];by_cases e:i=j
 ·subst e;rw [xf0 rfl];by_cases h:i < l.length
  ·rw [xf0 h,xf0 ⟨rfl,h⟩];rfl
  ·rw [xf1 h,xf1 (fun hh=>h hh.2),xi0 (by omega)]
 ·rw [xf1 e,xf1 (fun hh=>e hh.1)]
theorem a6I {held:List Nat} (hl:held.length<=2):∀ (k:Nat) {fr:List Fm} {h:Nat},3<=fr.length->h < fr.length->a0L fr h held < k ->
  (a0n k fr h held).2.2 < fr.length/\(a0n k fr h held).2.2 ∉ held/\(a0n k fr h held).2.1 < fr.length/\(a0n k fr h held).1.length=fr.length/\(∀ i,b0J (k9 (a0n k fr h held).1 i) (k9 fr i))/\∀ i ∈ held,k9 (a0n k fr h held).1 i=k9 fr i
 |0,_,_,_,_,hm=>absurd hm (Nat.not_lt_zero _)
 |k + 1,fr,h,h3,hn,hm=>by
  unfold a0n;by_cases hh:h ∈ held
  ·rw [xf0 hh];have hd:=a4o h3 hn hl hh;exact a6I hl k h3 (a6x hn) (by unfold a0L at hm |-;omega)
  ·rw [xf1 hh];have hget:=xe1 hn
   cases hs:(k9 fr h).seen with
   |false=>
    rw [xf1 (by simp)];exact ⟨hn,hh,a6x hn,rfl,fun i=>⟨rfl,rfl,rfl⟩,fun i _=>rfl⟩
   |true=>
    rw [xf0 rfl];have hse:=a3V (x:=⟨(k9 fr h).data,(k9 fr h).refs,(k9 fr h).dirty,false⟩) hget (by rw [<- o3 hget];exact hs) rfl;have hd2:=a2v fr.length (v9 fr.length h) held;have hlen:(fr.set h ⟨(k9 fr h).data,(k9 fr h).refs,(k9 fr h).dirty,false⟩).length=fr.length:=by simp
    have ih:=a6I hl k (fr:=fr.set h ⟨(k9 fr h).data,(k9 fr h).refs,(k9 fr h).dirty,false⟩) (h:=v9 fr.length h) (by rw [hlen];exact h3) (by rw [hlen];exact a6x hn) (by unfold a0L at hm |-;rw [hlen];omega);rw [hlen] at ih;obtain ⟨i1,i2,i3,i4,i5,i6⟩:=ih;refine ⟨i1,i2,i3,i4,fun i=>?_,fun i hi=>?_⟩
    ·have h5:=i5 i;rw [a22] at h5;by_cases e:h=i/\i < fr.length
     ·rw [xf0 e] at h5;obtain ⟨rfl,-⟩:=e;exact h5
     ·rw [xf1 e] at h5;exact h5
    ·rw [i6 i hi,a22,xf1];rintro ⟨rfl,-⟩;exact hh hi
theorem a5b {fr:List Fm} (h64:fr.length<=64) (h:Nat) (held:List Nat):a0L fr h held < 5000:=by
 unfold a0L a76;have h1:=List.countP_le_length (p:=fun (f:Fm)=>f.seen) (l:=fr);have h2:=a2v fr.length h held;omega
theorem FmOk.alike {sh:List Sh} {f g:Fm} {N:List Nm} (h:FmOk sh f N) (ha:b0J g f) (hr:f.refs≠0):FmOk sh g N:=by
 obtain ⟨a1,a2,a3⟩:=ha;refine ⟨by rw [a2];exact h.refs,fun e=>absurd (by rw [h.refs,e];rfl) hr,by rw [a1];exact h.len,h.same,fun n hn=>by rw [a1,a3];exact h.data n hn⟩
theorem a8G {K:Ker} (h:Right K) {held:List Nat} (hl:held.length<=2) (hfree:a2S K.frames=none) :
  Right ⟨K.sheets,(a0k K held).1,K.slots,K.spaces,((a0k K held).2.1:Nat)⟩/\(a0k K held).2.2 < K.frames.length/\(a0k K held).2.2 ∉ held/\(∀ i,b0J (k9 (a0k K held).1 i) (k9 K.frames i))/\(∀ i ∈ held,k9 (a0k K held).1 i=k9 K.frames i)/\(a0k K held).1.length=K.frames.length:=by
 have hh:=h.hand;have hc:=h.cnt;obtain ⟨c1,c2,c3,c4,c5,c6⟩:=a6I hl 5000 (fr:=K.frames) (h:=K.hand.toNat) hc.1 (by omega) (a5b hc.2.1 _ _);refine ⟨⟨by dsimp only [a0k];rw [c4];exact hc,h.rise,?_,?_,h.room,fun i g hg=>?_,h.sl⟩,c1,c2,c5,c6,c4⟩
 ·show 0<=(((a0n 5000 K.frames K.hand.toNat held).2.1:Nat):Int)/\(((a0n 5000 K.frames K.hand.toNat held).2.1:Nat):Int) < ((a0n 5000 K.frames K.hand.toNat held).1.length:Int);rw [c4];omega
 ·intro s hs;show t7 K.sheets ((a0n 5000 K.frames K.hand.toNat held).1.length:Int) K.slots.length s=true;rw [c4];exact h.spaces s hs
 ·replace hg:(a0n 5000 K.frames K.hand.toNat held).1[i]?=some g:=hg;have hil:i < K.frames.length:=by have:=b9 hg;omega
  have hig:=xe1 hil;have:=c5 i;rw [o3 hg,o3 hig] at this;exact (h.fr i _ hig).alike this (a4y hfree _ (xe2 hil))
theorem y7 {l:List En} {p:Int} {e:En} (h:k8 l p=some e):e ∈ l/\e.page=p:=⟨xi3 h,by have:=xi5 h;simpa using this⟩
theorem a3A {l:List En} (hr:Rises (j8 l)) {e:En} (h:e ∈ l):k8 l e.page=some e:=by
 induction l with
 |nil=>cases h
 |cons a l ih=>
  unfold k8;have hp:=xd7.1 hr;rcases xc4.1 h with rfl|h
  ·rw [List.find?_cons_of_pos (by simp)]
  ·have:a.page < e.page:=hp.1 e.page (xm7.2 ⟨e,h,rfl⟩);rw [xq9 (by simp;omega)];exact ih hp.2 h
theorem a1m {l:List En} {p:Int}:k8 l p=none ↔ p ∉ j8 l:=by
 unfold k8 j8;rw [xn6,xm7];constructor
 ·rintro h ⟨e,he,rfl⟩;exact h e he (by simp)
 ·intro h e he hp;exact h ⟨e,he,by simpa using hp⟩
theorem a5G {f:Int} {t:Option Int} {e x:En} (h:o4 f t e=some x):x.page=e.page:=by
 unfold o4 at h
 split at h
 ·cases t with
  |none=>cases h
  |some s=>cases h;rfl
 ·cases h;rfl
theorem a9a {f:Int} {t:Option Int} {l:List En} (hr:Rises (j8 l)) (p:Int):k8 (l.filterMap (o4 f t)) p=(k8 l p).bind (o4 f t):=by
 have hr2:=hr.sublist (a2A f t l)
 cases h:k8 l p with
 |none=>
  rw [a1m] at h;exact a1m.2 fun hp=>h ((a2A f t l).subset hp)
 |some e=>
  obtain ⟨he,rfl⟩:=y7 h;show _=o4 f t e
  cases hx:o4 f t e with
  |some x=>
   have:=a3A hr2 (List.mem_filterMap.2 ⟨e,he,hx⟩)
   rwa [a5G hx] at this
  |none=>
   rw [a1m];intro hp;obtain ⟨y,hy,hyp⟩:=xm7.1 hp;obtain ⟨z,hz,hzy⟩:=List.mem_filterMap.1 hy;have h1:=a5G hzy;have h2:=a3A hr hz;rw [<- h1,hyp,h] at h2
   cases h2
   rw [hx] at hzy
   cases hzy
theorem a01 {K:Ker} {sp:Nat} {s:Sc} (h:K.spaces[sp]?=some s):a0C K sp=s:=by unfold a0C;rw [h];rfl
theorem a5k {K:Ker} {sp:Nat} (h:K.spaces[sp]?=none):a0C K sp=sc0:=by unfold a0C;rw [h];rfl
theorem a3b {K:Ker} {sp:Nat} {s:Sc} {e:En} (h:K.spaces[sp]?=some s) (he:e ∈ s.entries):a0P s e ∈ j4 K.spaces e.kind e.at_:=by
 rw [a0K,xq8];refine ⟨s,xd0 h,?_⟩;unfold nm1;exact xm7.2 ⟨e,xp0.2 ⟨he,by simp⟩,rfl⟩
theorem b3Q {K:Ker} {sp:Nat} {s:Sc} (h:K.spaces[sp]?=some s) (e:En):(a0P s e).2.z=zAt K sp e.page:=by
 unfold zAt k7 a0P;rw [a01 h]
theorem Right.ent {K:Ker} (h:Right K) {sp:Nat} {s:Sc} {e:En} (hs:K.spaces[sp]?=some s) (he:e ∈ s.entries) :
  (o9 s.areas e.page).isSome=true/\((e.kind=1/\(∃ f:Nat,e.at_=(f:Nat)/\f < K.frames.length))\/(e.kind=2/\∃ f:Nat,e.at_=(f:Nat)/\f < K.slots.length)):=by
 have h1:=(a03.1 (h.spaces s (xd0 hs))).ents e he;refine ⟨h1.1,?_⟩;rcases h1.2 with ⟨a,b,c⟩|⟨a,b,c⟩
 ·exact xd6 ⟨a,e.at_.toNat,by omega,by omega⟩
 ·exact xd3 ⟨a,e.at_.toNat,by omega,by omega⟩
structure SameP (K K':Ker):Prop where
 sheets:K'.sheets=K.sheets
 nfr:K'.frames.length=K.frames.length
 nsl:K'.slots.length=K.slots.length
 nsp:K'.spaces.length=K.spaces.length
 ar:∀ sp,k7 K' sp=k7 K sp
 live:∀ sp,(a0C K' sp).live=(a0C K sp).live
 peek:∀ sp p,a0x K' sp p=a0x K sp p
theorem SameP.refl (K:Ker):SameP K K:=⟨rfl,rfl,rfl,rfl,fun _=>rfl,fun _=>rfl,fun _ _=>rfl⟩
theorem SameP.trans {K K' K2:Ker} (h:SameP K K') (h2:SameP K' K2):SameP K K2:=⟨h2.sheets.trans h.sheets,h2.nfr.trans h.nfr,h2.nsl.trans h.nsl,h2.nsp.trans h.nsp,fun s=>(h2.ar s).trans (h.ar s),fun s=>(h2.live s).trans (h.live s),fun s p=>(h2.peek s p).trans (h.peek s p)⟩
theorem a5z {K K':Ker} {sp:Nat} (hs:K'.sheets=K.sheets) (ha:k7 K' sp=k7 K sp) (p:Int):a1k K' sp p=a1k K sp p:=by
 unfold a1k zAt;rw [hs,ha]
theorem a4P {K K':Ker} {g:Sc->Sc} (h:K'.spaces=K.spaces.map g) (sp:Nat):(K.spaces[sp]?=none/\a0C K' sp=sc0/\a0C K sp=sc0)\/∃ s,K.spaces[sp]?=some s/\a0C K sp=s/\a0C K' sp=g s:=by
 unfold a0C;rw [h,xh8]
 cases hk:K.spaces[sp]? with
 |none=>exact xd6 ⟨rfl,rfl,rfl⟩
 |some s=>exact xd3 ⟨s,rfl,rfl,rfl⟩
theorem a88 {K:Ker} (h:Right K) {f:Nat} (hf:f < K.frames.length) (hfree:(k9 K.frames f).dirty=true->∃ t,a17 K.slots=some t) :
  SameP K (t4 K f)/\k9 (t4 K f).frames f=fm0/\j4 (t4 K f).spaces 1 (f:Nat)=[]/\(∀ i,i≠f->k9 (t4 K f).frames i=k9 K.frames i)/\(∀ i,(a0I K.slots i).refs≠0->a0I (t4 K f).slots i=a0I K.slots i)/\(∀ sp p,k8 (j6 (t4 K f) sp) p=(k8 (j6 K sp) p).bind (o4 (f:Nat) ((a0q K f).map fun (t:Nat)=>(t:Int)))):=by
 have hff:=xe1 hf;have hfo:=h.fr f _ hff;have hent:∀ sp p,k8 (j6 (t4 K f) sp) p=(k8 (j6 K sp) p).bind (o4 (f:Nat) ((a0q K f).map fun (t:Nat)=>(t:Int))):=fun sp p=>by
  unfold j6;rcases a4P (K':=t4 K f) (K:=K) (g:=y6 (f:Nat) ((a0q K f).map fun (t:Nat)=>(t:Int))) rfl sp with ⟨-,h1,h2⟩|⟨s,hs,h1,h2⟩
  ·rw [h1,h2];rfl
  ·rw [h1,h2];exact a9a (a03.1 (h.spaces s (xd0 hs))).rises p
 have harea:∀ sp,k7 (t4 K f) sp=k7 K sp:=fun sp=>by
  unfold k7;rcases a4P (K':=t4 K f) (K:=K) (g:=y6 (f:Nat) ((a0q K f).map fun (t:Nat)=>(t:Int))) rfl sp with ⟨-,h1,h2⟩|⟨s,hs,h1,h2⟩ <;> rw [h1,h2] <;> rfl
 have hlive:∀ sp,(a0C (t4 K f) sp).live=(a0C K sp).live:=fun sp=>by
  rcases a4P (K':=t4 K f) (K:=K) (g:=y6 (f:Nat) ((a0q K f).map fun (t:Nat)=>(t:Int))) rfl sp with ⟨-,h1,h2⟩|⟨s,hs,h1,h2⟩ <;> rw [h1,h2] <;> rfl
 have hfr:∀ i,k9 (t4 K f).frames i=if f=i then fm0 else k9 K.frames i:=fun i=>by
  show k9 (K.frames.set f fm0) i=_;rw [a22];by_cases e:f=i
  ·subst e;rw [xf0 ⟨rfl,hf⟩,xf0 rfl]
  ·rw [xf1 (fun hh=>e hh.1),xf1 e]
 have hT:∀ t,a0q K f=some t->(k9 K.frames f).dirty=true/\(a0I K.slots t).refs=0/\t < K.slots.length/\j4 K.spaces 2 (t:Nat)=[]/\(t4 K f).slots=K.slots.set t ⟨(k9 K.frames f).data,(k9 K.frames f).refs⟩:=fun t ht=>by
  have ht0:=ht;unfold a0q at ht
  cases hd:(k9 K.frames f).dirty with
  |false=>rw [hd] at ht;cases ht
  |true=>
   obtain ⟨u,hu⟩:=hfree hd;rw [hd,hu] at ht;obtain rfl:u=t:=by simpa using ht
   obtain ⟨s0,hs0,hs1⟩:=a2k hu;refine ⟨rfl,by rw [a1i hs0];exact hs1,b9 hs0,((h.sl u s0 hs0).free hs1).1,?_⟩;unfold t4;rw [ht0]
 have hT0:a0q K f=none->(k9 K.frames f).dirty=false/\(t4 K f).slots=K.slots:=fun ht=>by
  have ht0:=ht;unfold a0q at ht
  cases hd:(k9 K.frames f).dirty with
  |false=>exact ⟨rfl,by unfold t4;rw [ht0]⟩
  |true=>rw [hd] at ht;cases ht
 have hsw:∀ i,(a0I K.slots i).refs≠0->a0I (t4 K f).slots i=a0I K.slots i:=fun i hi=>by
  cases ht:a0q K f with
  |none=>rw [(hT0 ht).2]
  |some t=>
   obtain ⟨-,h2,-,-,h5⟩:=hT t ht;rw [h5,a64,xf1];rintro ⟨rfl,-⟩;exact hi h2
 refine ⟨⟨rfl,by show (K.frames.set f fm0).length=_;simp,?_,by show (K.spaces.map _).length=_;simp,harea,hlive,fun sp p=>?_⟩,by rw [hfr,xf0 rfl],a5S _,fun i hi=>by rw [hfr,xf1 (Ne.symm hi)],hsw,hent⟩
 ·cases ht:a0q K f with
  |none=>rw [(hT0 ht).2]
  |some t=>rw [(hT t ht).2.2.2.2];simp
 ·unfold a0x;rw [hent];have hfill:a1k (t4 K f) sp p=a1k K sp p:=a5z (K:=K) (K':=t4 K f) rfl (harea sp) p
  cases he:k8 (j6 K sp) p with
  |none=>exact hfill
  |some e=>
   obtain ⟨hem,hep⟩:=y7 he;rcases a4P (K':=K) (K:=K) (g:=id) (List.map_id _).symm sp with ⟨h0,-,h2⟩|⟨s,hs,h1,-⟩
   ·unfold j6 at hem;rw [h2] at hem
    cases hem
   ·have hes:e ∈ s.entries:=by unfold j6 at hem;rwa [h1] at hem
    have hnm:=a3b hs hes;show (match o4 (f:Nat) ((a0q K f).map fun (t:Nat)=>(t:Int)) e with
     |some e=>a0g (t4 K f) e
     |none=>a1k (t4 K f) sp p)=a0g K e
    unfold o4;by_cases hk:e.kind=1/\e.at_=(f:Nat)
    ·rw [xf0 hk];rw [hk.1,hk.2] at hnm;have hd:=hfo.data _ hnm;rw [b3Q hs] at hd;have hdat:a0g K e=(k9 K.frames f).data:=by unfold a0g;rw [xf0 hk.1,hk.2];rfl
     rw [hdat]
     cases ht:a0q K f with
     |none=>
      rw [<- o3 hff] at hd;rcases hd with hd|hd
      ·rw [(hT0 ht).1] at hd;cases hd
      ·show a1k (t4 K f) sp p=_;rw [hfill];unfold a1k;have:(a0P s e).1.page=p:=hep;rw [hep] at hd;rw [show (a0P s e).1.page=p from hep] at hd;rw [<- hd];rfl
     |some t=>
      obtain ⟨-,-,h3,-,h5⟩:=hT t ht;show a0g (t4 K f) ⟨e.page,2,(t:Nat)⟩=_;unfold a0g;rw [xf1 (by show ¬((2:Int)=1);omega),h5,show ((t:Nat):Int).toNat=t from rfl,a64,xf0 ⟨rfl,h3⟩]
    ·rw [xf1 hk];show a0g (t4 K f) e=a0g K e;unfold a0g;by_cases hk1:e.kind=1
     ·rw [xf0 hk1,xf0 hk1,hfr,xf1];rintro rfl;rcases (h.ent hs hes).2 with ⟨-,g,hg,-⟩|⟨h2,-⟩
      ·exact hk ⟨hk1,by omega⟩
      ·omega
     ·rw [xf1 hk1,xf1 hk1];rcases (h.ent hs hes).2 with ⟨h1,-⟩|⟨h2,g,hg,hgl⟩
      ·exact absurd h1 hk1
      ·rw [hsw];rw [hg];have hgo:=h.sl g _ (xe1 hgl);rw [h2,hg] at hnm;rw [show ((g:Nat):Int).toNat=g from rfl,a1i (xe1 hgl),hgo.refs];intro e0;have:j4 K.spaces 2 (g:Nat)=[]:=xf4 (by omega);rw [this] at hnm
       cases hnm
structure b52 (K:Ker) (held:List Nat) (r:Ker×Nat):Prop where
 right:Right r.1
 same:SameP K r.1
 lt:r.2 < K.frames.length
 zero:k9 r.1.frames r.2=fm0
 nobody:j4 r.1.spaces 1 (r.2:Nat)=[]
 kept:∀ i ∈ held,(k9 K.frames i).refs≠0->r.2≠i/\k9 r.1.frames i=k9 K.frames i
 slots:∀ i,(a0I K.slots i).refs≠0->a0I r.1.slots i=a0I K.slots i
 some_:∀ sp p e,k8 (j6 K sp) p=some e->(e.kind≠1\/∃ i ∈ held,e.at_=((i:Nat):Int)/\(k9 K.frames i).refs≠0)->k8 (j6 r.1 sp) p=some e
 none_:∀ sp p,k8 (j6 K sp) p=none->k8 (j6 r.1 sp) p=none
theorem a31 {K:Ker} (h:Right K) {held:List Nat} (hl:held.length<=2):b52 K held (z9 K held):=by
 unfold z9
 cases hf:a2S K.frames with
 |some i=>
  obtain ⟨f,hfi,h0⟩:=b0C hf;have hz:=(h.fr i f hfi).free h0;refine ⟨h,SameP.refl K,b9 hfi,by show k9 K.frames i=_;rw [o3 hfi];exact hz.2,hz.1,fun j _ hj=>⟨?_,rfl⟩,fun _ _=>rfl,fun _ _ _ h _=>h,fun _ _ h=>h⟩;rintro rfl;rw [o3 hfi] at hj;exact hj h0
 |none=>
  obtain ⟨c1,c2,c3,c4,c5,c6⟩:=a8G h hl hf;have hnz:∀ i,i < K.frames.length->(k9 K.frames i).refs≠0:=fun i hi=>by
   rw [o3 (xe1 hi)];exact a4y hf _ (xe2 hi)
  have hfl:(a0k K held).2.2 < (⟨K.sheets,(a0k K held).1,K.slots,K.spaces,((a0k K held).2.1:Nat)⟩:Ker).frames.length:=by show _ < (a0k K held).1.length;rw [c6];exact c2
  have hfree:=a73 c1 hfl (by show (k9 (a0k K held).1 _).refs≠0;rw [(c4 _).2.1];exact hnz _ c2);have hr:=a8H c1 hfl (fun _=>hfree);obtain ⟨s1,s2,s3,s4,s5,s6⟩:=a88 c1 hfl (fun _=>hfree);have hs0:SameP K ⟨K.sheets,(a0k K held).1,K.slots,K.spaces,((a0k K held).2.1:Nat)⟩:=by
   refine ⟨rfl,c6,rfl,rfl,fun _=>rfl,fun _=>rfl,fun sp p=>?_⟩;unfold a0x;show (match k8 (j6 K sp) p with
    |some e=>a0g ⟨K.sheets,(a0k K held).1,K.slots,K.spaces,((a0k K held).2.1:Nat)⟩ e
    |none=>a1k K sp p)=_
   cases k8 (j6 K sp) p with
   |none=>rfl
   |some e=>
    show a0g _ e=a0g K e;unfold a0g;rw [(c4 _).1]
  refine ⟨hr,hs0.trans s1,c2,s2,s3,fun i hi h0=>⟨?_,?_⟩,fun i hi=>s5 i hi,fun sp p e he hk=>?_,fun sp p he=>?_⟩
  ·rintro rfl;exact c3 hi
  ·show k9 (t4 _ _).frames i=_;rw [s4 i (fun e=>c3 (by rw [<- e];exact hi))];exact c5 i hi
  ·show k8 (j6 (t4 _ _) sp) p=_;rw [s6];show ((k8 (j6 K sp) p).bind _)=_;rw [he];show o4 _ _ e=_;unfold o4;rw [xf1];rintro ⟨k1,k2⟩;rcases hk with hk|⟨i,hi,hk,-⟩
   ·exact hk k1
   ·have:(a0k K held).2.2=i:=by omega
    exact c3 (by rw [this];exact hi)
  ·show k8 (j6 (t4 _ _) sp) p=_;rw [s6];show ((k8 (j6 K sp) p).bind _)=_;rw [he];rfl
theorem a3U {l:List En} (hr:Rises (j8 l)) {q:Int} {x:En}:k8 l q=some x ↔ x ∈ l/\x.page=q:=by
 constructor
 ·exact y7
 ·rintro ⟨h,rfl⟩;exact a3A hr h
theorem b4z (a:Int) (l:List Int) (t:Int):lbd (a::l) t=if a < t then lbd l t + 1 else 0:=by
 unfold lbd;rw [List.takeWhile_cons];by_cases h:a < t
 ·rw [xf0 (by simpa using h),xf0 h,xb1]
 ·rw [xf1 (by simpa using h),xf1 h];rfl
theorem a7H:∀ {l:List Int} (_:Rises l) (t:Int),(∀ p ∈ l.take (lbd l t),p < t)/\(∀ p ∈ l.drop (lbd l t),t<=p)
 |[],_,t=>by simp
 |a::l,h,t=>by
  have hp:=xd7.1 h;rw [b4z];by_cases c:a < t
  ·rw [xf0 c];obtain ⟨i1,i2⟩:=a7H hp.2 t;refine ⟨fun p hp'=>?_,by simpa using i2⟩;rw [xl4] at hp';rcases xc4.1 hp' with rfl|hp'
   ·exact c
   ·exact i1 p hp'
  ·rw [xf1 c];refine ⟨by simp,fun p hp'=>?_⟩;rw [xl9] at hp';rcases xc4.1 hp' with rfl|hp'
   ·omega
   ·have:=hp.1 p hp';omega
theorem a74 (l:List En) (e:En):(a7p l e).Perm (e::l):=by
 unfold a7p;refine List.perm_middle.trans ?_;rw [xj6]
theorem b0s {l:List En} (h:Rises (j8 l)) {e:En} (hn:e.page ∉ j8 l):Rises (j8 (a7p l e)):=by
 obtain ⟨h1,h2⟩:=a7H h e.page;have h3:Rises ((j8 l).take (lbd (j8 l) e.page)):=h.sublist (List.take_sublist _ _);have h4:Rises ((j8 l).drop (lbd (j8 l) e.page)):=h.sublist (List.drop_sublist _ _);have e1:j8 (a7p l e)=(j8 l).take (lbd (j8 l) e.page)++e.page::(j8 l).drop (lbd (j8 l) e.page):=by
  unfold a7p j8;rw [xl7,xc0,xa4,List.map_drop]
 rw [e1];refine xe4.2 ⟨h3,xd7.2 ⟨fun p hp=>?_,h4⟩,fun a ha b hb=>?_⟩
 ·have:=h2 p hp;have hne:p≠e.page:=fun e0=>hn (by rw [<- e0];exact xk0 hp);omega
 ·have:=h1 a ha;rcases xc4.1 hb with rfl|hb
  ·exact this
  ·have:=h2 b hb;omega
theorem a7Z {l:List En} (h:Rises (j8 l)) (e:En):∃ R,l.Perm ((k8 l e.page).toList++R)/\(putE l e).Perm (e::R)/\Rises (j8 (putE l e))/\(putE l e).length<=l.length + 1:=by
 unfold putE;by_cases hm:e.page ∈ j8 l
 ·rw [xf0 hm];have hi:=(a1g h e.page).2 hm;unfold j8 at hi;rw [xh8] at hi;obtain ⟨x,hx,hxp⟩:=xi7.1 hi;have he:k8 l e.page=some x:=(a3U h).2 ⟨xd0 hx,hxp⟩;refine ⟨l.eraseIdx (lbd (j8 l) e.page),?_,?_,?_,by simp⟩
  ·rw [he];exact a1O hx
  ·have:=a1O (l:=l.set (lbd (j8 l) e.page) e) (k:=lbd (j8 l) e.page) (b:=e) (by rw [xe0];simp;exact b9 hx)
   rwa [a3Q] at this
  ·have:j8 (l.set (lbd (j8 l) e.page) e)=j8 l:=by
    have e1:j8 (l.set (lbd (j8 l) e.page) e)=(j8 l).set (lbd (j8 l) e.page) e.page:=by unfold j8;rw [xl3]
    rw [e1];refine xh3 fun j=>?_;rw [xe0];by_cases hj:lbd (j8 l) e.page=j
    ·rw [xf0 hj,hj.symm];have h9:=(a1g h e.page).2 hm;rw [xf0 (b9 h9),h9]
    ·rw [xf1 hj]
   rw [this];exact h
 ·rw [xf1 hm];refine ⟨l,?_,a74 l e,b0s h hm,by rw [(a74 l e).length_eq];simp⟩;rw [a1m.2 hm];exact List.Perm.refl _
theorem b2M {l:List En} (h:Rises (j8 l)) (e:En) (q:Int):k8 (putE l e) q=if q=e.page then some e else k8 l q:=by
 obtain ⟨R,h1,h2,h3,-⟩:=a7Z h e;by_cases hq:q=e.page
 ·rw [xf0 hq];exact (a3U h3).2 ⟨h2.mem_iff.2 xc5,hq.symm⟩
 ·rw [xf1 hq]
  cases hx:k8 l q with
  |some x=>
   obtain ⟨hx1,hx2⟩:=y7 hx;refine (a3U h3).2 ⟨h2.mem_iff.2 (xc6 _ ?_),hx2⟩;rcases xe3.1 (h1.mem_iff.1 hx1) with h4|h4
   ·exfalso;rw [Option.mem_toList] at h4;exact hq (hx2.symm.trans (y7 h4).2)
   ·exact h4
  |none=>
   cases hy:k8 (putE l e) q with
   |none=>rfl
   |some y=>
    exfalso;obtain ⟨hy1,hy2⟩:=y7 hy;rcases xc4.1 (h2.mem_iff.1 hy1) with rfl|h4
    ·exact hq hy2.symm
    ·have:=(a3U h).2 ⟨h1.mem_iff.2 (xe6 _ h4),hy2⟩;rw [hx] at this
     cases this
def nmL (s:Sc) (k a:Int) (l:List En):List Nm:=(l.filter fun e=>decide (e.kind=k/\e.at_=a)).map (a0P s)
theorem a9k {s:Sc} {k a:Int} {l m:List En} (h:l.Perm m):(nmL s k a l).Perm (nmL s k a m):=(h.filter _).map _
theorem b1l (s:Sc) (k a:Int) (l m:List En):nmL s k a (l++m)=nmL s k a l++nmL s k a m:=by unfold nmL;rw [xk7,xl7]
theorem a59 {s:Sc} {k a:Int} {e:En} (l:List En) (h:e.kind=k/\e.at_=a):nmL s k a (e::l)=a0P s e::nmL s k a l:=by unfold nmL;rw [xk8 (by simpa using h)];rfl
theorem a9F {s:Sc} {k a:Int} {e:En} (l:List En) (h:¬(e.kind=k/\e.at_=a)):nmL s k a (e::l)=nmL s k a l:=by unfold nmL;rw [xl0 (by simpa using h)]
theorem a61 {L:List Sc} {sp:Nat} {s s':Sc} (h:L[sp]?=some s) (k a:Int):(j4 (L.set sp s') k a).Perm (nm1 s' k a++j4 (L.eraseIdx sp) k a)/\(j4 L k a).Perm (nm1 s k a++j4 (L.eraseIdx sp) k a):=by
 constructor
 ·have:=a1O (l:=L.set sp s') (k:=sp) (b:=s') (by rw [xe0];simp;exact b9 h);rw [a3Q] at this;exact this.flatMap_right _
 ·exact (a1O h).flatMap_right _
theorem FmOk.dec {sh:List Sh} {f:Fm} {n:Nm} {N:List Nm} (h:FmOk sh f (n::N)):FmOk sh (a3k f) N:=by
 have hr:=h.refs;rw [xb1] at hr;unfold a3k;by_cases h0:f.refs - 1=0
 ·rw [xf0 h0];obtain rfl:N=[]:=xf4 (by omega);exact FmOk.zero sh
 ·rw [xf1 h0];exact ⟨by show f.refs - 1=_;omega,fun e=>absurd (by rw [e] at hr;simp at hr;omega) h0,fun _=>h.len (by simp),fun a ha b hb=>h.same a (xc6 _ ha) b (xc6 _ hb),fun a ha=>h.data a (xc6 _ ha)⟩
theorem SwOk.dec {f:Sw} {n:Nm} {N:List Nm} (h:SwOk f (n::N)):SwOk (a3h f) N:=by
 have hr:=h.refs;rw [xb1] at hr;unfold a3h;by_cases h0:f.refs - 1=0
 ·rw [xf0 h0];obtain rfl:N=[]:=xf4 (by omega);exact SwOk.zero
 ·rw [xf1 h0];exact ⟨by show f.refs - 1=_;omega,fun e=>absurd (by rw [e] at hr;simp at hr;omega) h0,fun _=>h.len (by simp),fun a ha b hb=>h.same a (xc6 _ ha) b (xc6 _ hb)⟩
theorem b4i {sh:List Sh} {f:Fm} {n m:Nm} {N:List Nm} (h:FmOk sh f (n::m::N)):(a3k f).data=f.data:=by
 have hr:=h.refs;rw [xb1,xb1] at hr;unfold a3k;rw [xf1 (by omega)]
theorem b2K {f:Sw} {n m:Nm} {N:List Nm} (h:SwOk f (n::m::N)):(a3h f).data=f.data:=by
 have hr:=h.refs;rw [xb1,xb1] at hr;unfold a3h;rw [xf1 (by omega)]
theorem a5K (K:Ker) (o:Option En):(a1J K o).spaces=K.spaces/\(a1J K o).sheets=K.sheets/\(a1J K o).hand=K.hand/\(a1J K o).frames.length=K.frames.length/\(a1J K o).slots.length=K.slots.length:=by
 cases o with
 |none=>exact ⟨rfl,rfl,rfl,rfl,rfl⟩
 |some e=>
  show (a3p K e).spaces=_/\(a3p K e).sheets=_/\(a3p K e).hand=_/\(a3p K e).frames.length=_/\(a3p K e).slots.length=_;unfold a3p
  split
  ·exact ⟨rfl,rfl,rfl,xa8,rfl⟩
  ·exact ⟨rfl,rfl,rfl,rfl,xa8⟩
structure InOk (K K':Ker) (sp:Nat) (page:Int) (f:Nat) (data:List UInt8) (dirty:Bool):Prop where
 right:Right K'
 sheets:K'.sheets=K.sheets
 nfr:K'.frames.length=K.frames.length
 nsl:K'.slots.length=K.slots.length
 nsp:K'.spaces.length=K.spaces.length
 ar:∀ i,k7 K' i=k7 K i
 live:∀ i,(a0C K' i).live=(a0C K i).live
 peek:∀ i p,¬(i=sp/\p=page)->a0x K' i p=a0x K i p
 here:a0x K' sp page=data
 ent:∀ i p,k8 (j6 K' i) p=if i=sp/\p=page then some ⟨page,1,(f:Nat)⟩ else k8 (j6 K i) p
 fm:k9 K'.frames f=⟨data,1,dirty,false⟩
 other:∀ i,i≠f->(∀ w0,k8 (j6 K sp) page=some w0->¬(w0.kind=1/\w0.at_=((i:Nat):Int)))->k9 K'.frames i=k9 K.frames i
theorem b6I {K:Ker} {sp:Nat} {s:Sc} {page:Int} {f:Nat} {data:List UInt8} {dirty:Bool} (h:Right K) (hs:K.spaces[sp]?=some s) (hlive:s.live=true) (ha:(o9 s.areas page).isSome=true) (hf:f < K.frames.length) (hN:j4 K.spaces 1 (f:Nat)=[]) (hd:data.length=16) (hfill:dirty=true\/some data=a0G K.sheets (zAt K sp page) page):InOk K (inK K sp page f data dirty) sp page f data dirty:=by
 have hsc:=a03.1 (h.spaces s (xd0 hs));have hse:=a01 hs;have hent:j6 K sp=s.entries:=by unfold j6;rw [hse]
 obtain ⟨e',he'⟩:∃ e':En,e'=⟨page,1,(f:Nat)⟩:=⟨_,rfl⟩;obtain ⟨s',hs'⟩:∃ s':Sc,s'=⟨s.live,s.areas,putE s.entries e'⟩:=⟨_,rfl⟩;obtain ⟨was,hwas⟩:∃ o,o=k8 s.entries page:=⟨_,rfl⟩;obtain ⟨R,r1,r2,r3,r4⟩:=a7Z hsc.rises e';have hpe:e'.page=page:=by rw [he']
 rw [hpe,<- hwas] at r1;have hM:∀ k a,(j4 K.spaces k a).Perm (nmL s k a was.toList++(nmL s k a R++j4 (K.spaces.eraseIdx sp) k a)):=fun k a=>by
  refine (a61 (s':=s') hs k a).2.trans ?_;rw [<- xg2,<- b1l];exact List.Perm.append_right _ (a9k r1)
 have hM':∀ k a,(j4 (K.spaces.set sp s') k a).Perm (nmL s k a [e']++(nmL s k a R++j4 (K.spaces.eraseIdx sp) k a)):=fun k a=>by
  refine (a61 (s':=s') hs k a).1.trans ?_;rw [<- xg2,<- b1l];refine List.Perm.append_right _ ?_;have:nm1 s' k a=nmL s k a (putE s.entries e'):=by rw [hs'];rfl
  rw [this];exact a9k r2
 obtain ⟨M,hMd⟩:∃ M:Int->Int->List Nm,M=fun k a=>nmL s k a R++j4 (K.spaces.eraseIdx sp) k a:=⟨_,rfl⟩;have hMe:∀ k a,nmL s k a R++j4 (K.spaces.eraseIdx sp) k a=M k a:=fun k a=>by rw [hMd]
 simp only [hMe] at hM hM';have hMf:M 1 (f:Nat)=[]:=by
  have:=(hM 1 (f:Nat)).symm.trans (by rw [hN]);exact (xo6.1 this.eq_nil).2
 have hwf:∀ w0,was=some w0->w0.kind=1->w0.at_≠(f:Nat):=fun w0 hw k1 k2=>by
  have:=(hM 1 (f:Nat)).symm.trans (by rw [hN]);rw [hw,xp9,a59 [] ⟨k1,k2⟩] at this
  cases this.eq_nil
 have hwin:∀ w0,was=some w0->(w0.kind=1/\∃ b:Nat,w0.at_=(b:Nat)/\b < K.frames.length)\/(w0.kind=2/\∃ b:Nat,w0.at_=(b:Nat)/\b < K.slots.length):=fun w0 hw=>by
  rw [hwas] at hw;exact (h.ent hs (y7 hw).1).2
 -- what comes
 have hK':inK K sp page f data dirty=⟨K.sheets,(a1J (a0f K f ⟨data,1,dirty,false⟩) was).frames,(a1J (a0f K f ⟨data,1,dirty,false⟩) was).slots,K.spaces.set sp s',K.hand⟩:=by
  unfold inK a1T a9y;rw [hent,<- hwas,hs',he'];obtain ⟨l1,l2,l3,-⟩:=a5K (a0f K f ⟨data,1,dirty,false⟩) was;have hl:a0C (a1J (a0f K f ⟨data,1,dirty,false⟩) was) sp=s:=by
   unfold a0C;rw [l1];show (K.spaces[sp]?).getD sc0=s;rw [hs];rfl
  rw [hl,l1,l2,l3];rfl
 rw [hK'];have hlens:=a5K (a0f K f ⟨data,1,dirty,false⟩) was;have hlf:(a1J (a0f K f ⟨data,1,dirty,false⟩) was).frames.length=K.frames.length:=by rw [hlens.2.2.2.1];show (K.frames.set f _).length=_;simp
 have hls:(a1J (a0f K f ⟨data,1,dirty,false⟩) was).slots.length=K.slots.length:=by rw [hlens.2.2.2.2];rfl
 have hscs:∀ i,a0C ⟨K.sheets,(a1J (a0f K f ⟨data,1,dirty,false⟩) was).frames,(a1J (a0f K f ⟨data,1,dirty,false⟩) was).slots,K.spaces.set sp s',K.hand⟩ i=if i=sp then s' else a0C K i:=fun i=>by
  unfold a0C;show ((K.spaces.set sp s')[i]?).getD sc0=_;rw [xe0];by_cases e:sp=i
  ·subst e;rw [xf0 rfl,xf0 (b9 hs),xf0 rfl];rfl
  ·rw [xf1 e,xf1 (fun hh=>e hh.symm)]
 have har:∀ i,k7 ⟨K.sheets,(a1J (a0f K f ⟨data,1,dirty,false⟩) was).frames,(a1J (a0f K f ⟨data,1,dirty,false⟩) was).slots,K.spaces.set sp s',K.hand⟩ i=k7 K i:=fun i=>by
  unfold k7;rw [hscs];by_cases e:i=sp
  ·subst e;rw [xf0 rfl,hse,hs']
  ·rw [xf1 e]
 have hlv:∀ i,(a0C ⟨K.sheets,(a1J (a0f K f ⟨data,1,dirty,false⟩) was).frames,(a1J (a0f K f ⟨data,1,dirty,false⟩) was).slots,K.spaces.set sp s',K.hand⟩ i).live=(a0C K i).live:=fun i=>by
  rw [hscs];by_cases e:i=sp
  ·subst e;rw [xf0 rfl,hse,hs']
  ·rw [xf1 e]
 have hen:∀ i p,k8 (j6 ⟨K.sheets,(a1J (a0f K f ⟨data,1,dirty,false⟩) was).frames,(a1J (a0f K f ⟨data,1,dirty,false⟩) was).slots,K.spaces.set sp s',K.hand⟩ i) p=if i=sp/\p=page then some ⟨page,1,(f:Nat)⟩ else k8 (j6 K i) p:=fun i p=>by
  unfold j6;rw [hscs];by_cases e:i=sp
  ·subst e;rw [xf0 rfl,hse,hs'];show k8 (putE s.entries e') p=_;rw [b2M hsc.rises,hpe];by_cases e2:p=page
   ·rw [xf0 e2,xf0 ⟨rfl,e2⟩,he']
   ·rw [xf1 e2,xf1 (fun hh=>e2 hh.2)]
  ·rw [xf1 e,xf1 (fun hh=>e hh.1)]
 -- frames and slots
 have hfr:∀ i,k9 (a1J (a0f K f ⟨data,1,dirty,false⟩) was).frames i=if i=f then ⟨data,1,dirty,false⟩ else if (∃ w0,was=some w0/\w0.kind=1/\w0.at_=(i:Nat)) then a3k (k9 K.frames i) else k9 K.frames i:=fun i=>by
  have a1E:∀ j,k9 (K.frames.set f ⟨data,1,dirty,false⟩) j=if j=f then ⟨data,1,dirty,false⟩ else k9 K.frames j:=fun j=>by
   rw [a22];by_cases e:f=j
   ·subst e;rw [xf0 ⟨rfl,hf⟩,xf0 rfl]
   ·rw [xf1 (fun hh=>e hh.1),xf1 (fun hh=>e hh.symm)]
  cases hw:was with
  |none=>
   show k9 (K.frames.set f _) i=_;rw [a1E];by_cases e:i=f
   ·rw [xf0 e,xf0 e]
   ·rw [xf1 e,xf1 e,xf1];rintro ⟨w0,h1,-⟩
    cases h1
  |some w0=>
   have h1:=hwf w0 hw;show k9 (a3p (a0f K f _) w0).frames i=_;unfold a3p;rcases hwin w0 hw with ⟨k,b,hb,hbl⟩|⟨k,b,hb,hbl⟩
   ·rw [xf0 k];show k9 ((K.frames.set f ⟨data,1,dirty,false⟩).set w0.at_.toNat (a3k (k9 (K.frames.set f ⟨data,1,dirty,false⟩) w0.at_.toNat))) i=_;rw [hb,show ((b:Nat):Int).toNat=b from rfl,a22,a1E,a1E];have hbf:¬ b=f:=fun e=>h1 k (by rw [hb,e]);rw [xf1 hbf];by_cases e:b=i
    ·subst e;rw [xf0 ⟨rfl,by simpa using hbl⟩,xf1 hbf,xf0 ⟨w0,rfl,k,hb⟩]
    ·rw [xf1 (fun hh=>e hh.1)];by_cases e2:i=f
     ·rw [xf0 e2,xf0 e2]
     ·rw [xf1 e2,xf1 e2,xf1];rintro ⟨w1,h2,-,h3⟩
      cases h2
      rw [hb] at h3;exact e (by omega)
   ·rw [xf1 (by omega)];show k9 (K.frames.set f _) i=_;rw [a1E];by_cases e:i=f
    ·rw [xf0 e,xf0 e]
    ·rw [xf1 e,xf1 e,xf1];rintro ⟨w1,h2,h3,-⟩
     cases h2
     omega
 have hsl:∀ i,a0I (a1J (a0f K f ⟨data,1,dirty,false⟩) was).slots i=if (∃ w0,was=some w0/\w0.kind=2/\w0.at_=(i:Nat)) then a3h (a0I K.slots i) else a0I K.slots i:=fun i=>by
  cases hw:was with
  |none=>
   show a0I K.slots i=_;rw [xf1];rintro ⟨w0,h1,-⟩
   cases h1
  |some w0=>
   show a0I (a3p (a0f K f _) w0).slots i=_;unfold a3p;rcases hwin w0 hw with ⟨k,b,hb,hbl⟩|⟨k,b,hb,hbl⟩
   ·rw [xf0 k];show a0I K.slots i=_;rw [xf1];rintro ⟨w1,h2,h3,-⟩
    cases h2
    omega
   ·rw [xf1 (by omega)];show a0I (K.slots.set w0.at_.toNat (a3h (a0I K.slots w0.at_.toNat))) i=_;rw [hb,show ((b:Nat):Int).toNat=b from rfl,a64];by_cases e:b=i
    ·subst e;rw [xf0 ⟨rfl,hbl⟩,xf0 ⟨w0,rfl,k,hb⟩]
    ·rw [xf1 (fun hh=>e hh.1),xf1];rintro ⟨w1,h2,-,h3⟩
     cases h2
     rw [hb] at h3;exact e (by omega)
 -- who names what
 have hN1:∀ i:Nat,(∃ w0,was=some w0/\w0.kind=1/\w0.at_=(i:Nat))->∃ n,(j4 K.spaces 1 (i:Nat)).Perm (n::M 1 (i:Nat)):=fun i ⟨w0,hw,h1,h2⟩=>by
  refine ⟨a0P s w0,(hM 1 (i:Nat)).trans ?_⟩;rw [hw,xp9,a59 [] ⟨h1,h2⟩];exact List.Perm.refl _
 have hN1':∀ (k:Int) (i:Nat),¬(∃ w0,was=some w0/\w0.kind=k/\w0.at_=(i:Nat))->(j4 K.spaces k (i:Nat)).Perm (M k (i:Nat)):=fun k i hno=>by
  refine (hM k (i:Nat)).trans ?_
  cases hw:was with
  |none=>exact List.Perm.refl _
  |some w0=>
   rw [xp9,a9F [] (fun hh=>hno ⟨w0,hw,hh.1,hh.2⟩)];exact List.Perm.refl _
 have hN2:∀ i:Nat,(∃ w0,was=some w0/\w0.kind=2/\w0.at_=(i:Nat))->∃ n,(j4 K.spaces 2 (i:Nat)).Perm (n::M 2 (i:Nat)):=fun i ⟨w0,hw,h1,h2⟩=>by
  refine ⟨a0P s w0,(hM 2 (i:Nat)).trans ?_⟩;rw [hw,xp9,a59 [] ⟨h1,h2⟩];exact List.Perm.refl _
 have hNn:∀ (k:Int) (i:Nat),¬(k=1/\i=f)->(j4 (K.spaces.set sp s') k (i:Nat)).Perm (M k (i:Nat)):=fun k i hno=>by
  refine (hM' k (i:Nat)).trans ?_;rw [he',a9F []]
  ·exact List.Perm.refl _
  ·rintro ⟨h1,h2⟩;exact hno ⟨h1.symm,by have:((f:Nat):Int)=(i:Nat):=h2;omega⟩
 have hNf:(j4 (K.spaces.set sp s') 1 (f:Nat)).Perm [a0P s e']:=by
  refine (hM' 1 (f:Nat)).trans ?_;rw [hMf,a59 [] (by rw [he'];exact ⟨rfl,rfl⟩)];exact List.Perm.refl _
 -- an entry that stays: its data
 have hdata:∀ (x:En),(x.kind=1\/x.kind=2)->(∃ b:Nat,x.at_=(b:Nat)/\(x.kind=1->b < K.frames.length)/\(x.kind=2->b < K.slots.length))->M x.kind x.at_≠[]->a0g ⟨K.sheets,(a1J (a0f K f ⟨data,1,dirty,false⟩) was).frames,(a1J (a0f K f ⟨data,1,dirty,false⟩) was).slots,K.spaces.set sp s',K.hand⟩ x=a0g K x:=fun x hk ⟨b,hb,hb1,hb2⟩ hne=>by
  unfold a0g;rcases hk with hk|hk
  ·rw [xf0 hk,xf0 hk];dsimp only;rw [hb,show ((b:Nat):Int).toNat=b from rfl,hfr];rw [hk,hb] at hne;by_cases e:b=f
   ·subst e;exact absurd hMf hne
   ·rw [xf1 e];by_cases hw:∃ w0,was=some w0/\w0.kind=1/\w0.at_=(b:Nat)
    ·rw [xf0 hw];obtain ⟨n,hn⟩:=hN1 b hw;have hbo:=(h.fr b _ (xe1 (hb1 hk))).perm hn;rw [o3 (xe1 (hb1 hk))]
     cases hMb:M 1 (b:Nat) with
     |nil=>exact absurd hMb hne
     |cons m N=>
      rw [hMb] at hbo;exact b4i hbo
    ·rw [xf1 hw]
  ·rw [xf1 (by omega),xf1 (by omega)];dsimp only;rw [hb,show ((b:Nat):Int).toNat=b from rfl,hsl];rw [hk,hb] at hne;by_cases hw:∃ w0,was=some w0/\w0.kind=2/\w0.at_=(b:Nat)
   ·rw [xf0 hw];obtain ⟨n,hn⟩:=hN2 b hw;have hbo:=(h.sl b _ (xe1 (hb2 hk))).perm hn;rw [a1i (xe1 (hb2 hk))]
    cases hMb:M 2 (b:Nat) with
    |nil=>exact absurd hMb hne
    |cons m N=>
     rw [hMb] at hbo;exact b2K hbo
   ·rw [xf1 hw]
 have hfmf:k9 (a1J (a0f K f ⟨data,1,dirty,false⟩) was).frames f=⟨data,1,dirty,false⟩:=by rw [hfr,xf0 rfl]
 have hcnt:=h.cnt;have hhand:=h.hand;refine ⟨⟨?_,h.rise,?_,fun x hx=>?_,?_,fun i g hg=>?_,fun i g hg=>?_⟩,rfl,hlf,hls,by simp,har,hlv,fun i p hno=>?_,?_,hen,hfmf,fun i hi hw=>?_⟩
 ·dsimp only;rw [hlf,hls,xa8];exact hcnt
 ·dsimp only;rw [hlf];exact hhand
 ·dsimp only at hx |-;rw [hlf,hls];rcases xn0 hx with hx|rfl
  ·exact h.spaces x hx
  ·rw [a03,hs'];refine ⟨fun hl=>(by rw [hlive] at hl;cases hl),hsc.ar,hsc.pages,fun e he=>?_,r3⟩;rcases xc4.1 (r2.mem_iff.1 he) with rfl|he
   ·rw [he'];exact ⟨ha,xd6 ⟨rfl,Int.natCast_nonneg f,by show ((f:Nat):Int) < _;omega⟩⟩
   ·exact hsc.ents e (r1.mem_iff.2 (xe6 _ he))
 ·dsimp only;rw [hls];have:a0i (K.spaces.set sp s')=a0i K.spaces:=by
   unfold a0i;rw [xl3,hs']
   congr 1
   refine xh3 fun j=>?_;rw [xe0];by_cases e:sp=j
   ·subst e;rw [xf0 rfl,xj1,xf0 (b9 hs),xh8,hs];rfl
   ·rw [xf1 e]
  rw [this];exact h.room
 ·dsimp only at hg |-;have hil:i < K.frames.length:=by have:=b9 hg;omega
  have hgi:=xe1 hil;have hge:=hfr i;rw [o3 hg,o3 hgi] at hge;by_cases e:i=f
  ·subst e;rw [xf0 rfl] at hge;refine FmOk.perm (N:=[a0P s e']) ?_ hNf.symm;rw [hge];refine ⟨rfl,(fun hh=>by cases hh),fun _=>hd,fun n hn m hm=>?_,fun n hn=>?_⟩
   ·rw [xj0] at hn hm;subst hn;subst hm;exact ⟨rfl,rfl⟩
   ·rw [xj0] at hn;subst hn;rcases hfill with hh|hh
    ·exact xd6 hh
    ·right;rw [b3Q hs,hpe];rw [show (a0P s e').1.page=page from hpe];exact hh
  ·rw [xf1 e] at hge;have hpm:=hNn 1 i (fun hh=>e hh.2);by_cases hw:∃ w0,was=some w0/\w0.kind=1/\w0.at_=(i:Nat)
   ·rw [xf0 hw] at hge;obtain ⟨n,hn⟩:=hN1 i hw;rw [hge];exact ((h.fr i _ hgi).perm hn).dec.perm hpm.symm
   ·rw [xf1 hw] at hge;rw [hge];exact (h.fr i _ hgi).perm ((hN1' 1 i hw).trans hpm.symm)
 ·dsimp only at hg |-;have hil:i < K.slots.length:=by have:=b9 hg;omega
  have hgi:=xe1 hil;have hge:=hsl i;rw [a1i hg,a1i hgi] at hge;have hpm:=hNn 2 i (fun hh=>by omega);by_cases hw:∃ w0,was=some w0/\w0.kind=2/\w0.at_=(i:Nat)
  ·rw [xf0 hw] at hge;obtain ⟨n,hn⟩:=hN2 i hw;rw [hge];exact ((h.sl i _ hgi).perm hn).dec.perm hpm.symm
  ·rw [xf1 hw] at hge;rw [hge];exact (h.sl i _ hgi).perm ((hN1' 2 i hw).trans hpm.symm)
 ·unfold a0x;rw [hen,xf1 hno]
  cases hx:k8 (j6 K i) p with
  |none=>exact a5z (hs:=by rfl) (ha:=har i) p
  |some x=>
   show a0g _ x=a0g K x;obtain ⟨hx1,hx2⟩:=y7 hx
   cases hi:K.spaces[i]? with
   |none=>unfold j6 at hx1;rw [a5k hi] at hx1;cases hx1
   |some t=>
    unfold j6 at hx1;rw [a01 hi] at hx1;have hin:=(h.ent hi hx1).2;have hk:x.kind=1\/x.kind=2:=by rcases hin with ⟨a,-⟩|⟨a,-⟩ <;> omega
    refine hdata x hk ?_ ?_
    ·rcases hin with ⟨a,b,c,d⟩|⟨a,b,c,d⟩
     ·exact ⟨b,c,fun _=>d,fun hh=>by omega⟩
     ·exact ⟨b,c,fun hh=>by omega,fun _=>d⟩
    ·rw [<- hMe];intro hnil;obtain ⟨h1,h2⟩:=xo6.1 hnil;by_cases e:i=sp
     ·subst e;rw [hs] at hi
      cases hi
      have hxR:x ∈ R:=by
       rcases xe3.1 (r1.mem_iff.1 hx1) with h4|h4
       ·exfalso;rw [Option.mem_toList,hwas] at h4;exact hno ⟨rfl,hx2.symm.trans (y7 h4).2⟩
       ·exact h4
      have:a0P s x ∈ nmL s x.kind x.at_ R:=xm7.2 ⟨x,xp0.2 ⟨hxR,by simp⟩,rfl⟩;rw [h1] at this
      cases this
     ·have hte:t ∈ K.spaces.eraseIdx sp:=List.mem_eraseIdx_iff_getElem?.2 ⟨i,e,hi⟩;have:a0P t x ∈ j4 (K.spaces.eraseIdx sp) x.kind x.at_:=by
       rw [a0K,xq8];exact ⟨t,hte,xm7.2 ⟨x,xp0.2 ⟨hx1,by simp⟩,rfl⟩⟩
      rw [h2] at this
      cases this
 ·unfold a0x;rw [hen,xf0 ⟨rfl,rfl⟩];show a0g _ (⟨page,1,(f:Nat)⟩:En)=data;unfold a0g;rw [xf0 rfl];show (k9 (a1J (a0f K f ⟨data,1,dirty,false⟩) was).frames f).data=data;rw [hfmf]
 ·show k9 (a1J (a0f K f ⟨data,1,dirty,false⟩) was).frames i=_;rw [hfr,xf1 hi,xf1];rintro ⟨w0,h1,h2,h3⟩;exact hw w0 (by rw [hent,<- hwas];exact h1) ⟨h2,h3⟩
end Go.Proofs.YtejnpppejalhfabGreat
