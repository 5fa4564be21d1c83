/- Texts that the proof stands on, one behind the other: Ke12, PlRun3, PlRun4, PlRun5, PlRun6. -/
import Derived.Test.YtejnpppejalhfabGreatPKernelStarts11
namespace Go.Proofs.YtejnpppejalhfabGreat
set_option maxRecDepth 100000
set_option maxHeartbeats 8000000
open Go.RowKit Go.Sort
theorem b0S {l:List Sh} {nf ns:Int} {L:List Sc} (h:L.all (t6 l nf ns)=true) {k a:Int} {n:Nm} (hn:n ∈ j8 L k a):∃ x,a0Q l n.2.z n.1.page=some x:=by
 unfold j8 at hn;obtain ⟨s,hs,h2⟩:=xg9.1 hn;obtain ⟨e,he,rfl⟩:=xh0.1 h2;have hsc:=a1h.1 (xc7.1 h s hs);obtain ⟨b,hb⟩:=xg7.1 (hsc.ents e (xi6.1 he).1).1;have hm:=xj3 hb;have hh:=xg8 hb;unfold a0k Ar.fin at hh;rw [xb5] at hh;have hp:=hsc.pages;unfold a1B at hp;have h3:=xc7.1 (xc7.1 hp b hm) (e.page - b.pg).toNat (by rw [xi8];omega);rw [show b.pg + (((e.page - b.pg).toNat:Nat):Int)=e.page by omega] at h3;obtain ⟨d,hd⟩:=xg7.1 h3;exact ⟨d,by unfold a0U;rw [hb];exact hd⟩
theorem a73 (N:List Nm):∃ p q a,a06 N=((N.length:Int),p,q,a)/\(∀ n r,N=n::r->q=a0X N/\(a0X N=true->p=n.1.page/\a.z=n.2.z)):=by
 rcases h:a06 N with ⟨c,p,q,a⟩
 have hl:=b1q N;rw [h] at hl;dsimp only at hl;subst hl;refine ⟨p,q,a,rfl,fun n r e=>?_⟩;subst e;have:=a9a (n:=n) (r:=r);rw [h] at this;exact this
theorem b0v {K:Ker} (h:∀ (j:Nat) f,K.frames[j]?=some f->a1s K.sheets f (j8 K.spaces 1 (j:Nat))=true):a1a K=true:=by
 unfold a1a;rw [xc7];intro i _
 cases hf:K.frames[i]? with
 |none=>rfl
 |some f=>exact h i f hf
theorem a10 {K:Ker} {j:Nat} {f:Fm} (hf:K.frames[j]?=some f) (h:a1s K.sheets f (j8 K.spaces 1 (j:Nat))=false):a1a K=false:=by
 unfold a1a;rw [xi7];exact ⟨j,xi8.2 (e7 hf),by rw [hf];simpa using h⟩
theorem b2I {K:Ker} (h:∀ (j:Nat) f,K.slots[j]?=some f->a15 f (j8 K.spaces 2 (j:Nat))=true):a1N K=true:=by
 unfold a1N;rw [xc7];intro i _
 cases hf:K.slots[i]? with
 |none=>rfl
 |some f=>exact h i f hf
theorem a3e {K:Ker} {j:Nat} {f:Sw} (hf:K.slots[j]?=some f) (h:a15 f (j8 K.spaces 2 (j:Nat))=false):a1N K=false:=by
 unfold a1N;rw [xi7];exact ⟨j,xi8.2 (e7 hf),by rw [hf];simpa using h⟩
theorem a95 {w:World} {k:KV} (hK:KerV w k):Fn Tryz.prog 24 [.agg (kvC k).toArray] w (RBf (.int .i64 (a1g k.K)) w):=by
 have b1:=hK.fr.bound;have b2:=hK.sl.bound;have b3:=hK.sp.bound;have b4:=hK.sh.sl.bound;have hsf:=fun w1 (h:KerV w1 k) (p:Sp) (hp:p ∈ k.sp)=>a8M h (h.spv p hp);obtain ⟨sh,fr,sl,sp,hand,vsh,vfr,vsl,vsp⟩:=k;have hK0:=hK;obtain ⟨k1,k2,k3,k4,k5⟩:=hK;dsimp only at b1 b2 b3 b4 k1 k2 k3 k4 k5 hsf;obtain ⟨p1,c1,rfl⟩:=k1.sl.len;obtain ⟨p2,c2,rfl⟩:=k2.len;obtain ⟨p3,c3,rfl⟩:=k3.len;obtain ⟨p4,c4,rfl⟩:=k4.len;unfold kvC a1g KV.K;unfold kvC at hsf;dsimp only at hsf |-;by_cases hcnt:a1T ⟨shs sh,fr,sl,sp.map (·.s),hand⟩=true;rotate_left
 ·rw [xf1 hcnt];unfold a1T at hcnt;rw [xb5] at hcnt;dsimp only at hcnt;rw [xh1,a0L] at hcnt;refine yEn Tryz.func24 Tryz.ntmps24 (by kernel_rfl) (by kernel_rfl) rfl rfl ?_;have hS:=St.start w
  repeat' (first|(with_reducible apply b9 b8);rfl;rfl;rfl|(with_reducible apply c9);rfl;(apply Ld.sl b8;rfl;exact hS.blkC 0 rfl rfl);rfl|refine yDn (by with_reducible constructor) ?_|(with_reducible apply k6);(iterate 4 rfl);assumption|(with_reducible apply q8);(iterate 4 rfl);(first|rfl|assumption);rfl|(with_reducible apply i7);rfl;(first|rfl|assumption);rfl;rfl|(with_reducible apply e9);rfl;assumption;rfl;rfl|(with_reducible apply e8);rfl;rfl|(with_reducible apply k9 hS);rfl;rfl;rfl;clear hS;intro g w' hS|(with_reducible apply n9);rfl;rfl;rfl;all_goals (intro hb hp;try (exfalso;omega))|(with_reducible apply a1U);rfl;rfl;rfl;all_goals (intro hb hp;try (exfalso;omega))|(with_reducible apply d7);rfl;all_goals (intro hb hp;try (exfalso;omega))|(with_reducible apply d8 hS);rfl;rfl;rfl;refine ⟨_,q7 _ _ _ _,?_⟩;clear hS;intro w' hS)
  all_goals (apply a0r)
  all_goals (repeat (first|exact ResL.nil|apply ResL.tmp;rfl))
  all_goals (exact ⟨rfl,hS.sub (xh2 _)⟩)
 rw [xf0 hcnt];unfold a1T at hcnt;rw [xb5] at hcnt;dsimp only at hcnt;rw [xh1,a0L] at hcnt;have hshe:=fun w1 (h:ShsV w1 sh (.slice p1 sh.length c1))=>a4r h;have hfe:a52 ⟨shs sh,fr,sl,sp.map (·.s),hand⟩=((a0B 0 (shs sh) && decide (0<=hand/\hand < (fr.length:Int))) && ((sp.map (·.s)).all (t6 (shs sh) fr.length sl.length) && (decide (t5 (sp.map (·.s))<=(sl.length:Int)) && (a1a ⟨shs sh,fr,sl,sp.map (·.s),hand⟩ && a1N ⟨shs sh,fr,sl,sp.map (·.s),hand⟩)))):=rfl
 cases hsh:a0B 0 (shs sh) with
 |false=>
  rw [hsh] at hshe hfe;rw [xh7,xh7] at hfe;rw [hfe];refine yEn Tryz.func24 Tryz.ntmps24 (by kernel_rfl) (by kernel_rfl) rfl rfl ?_;have hS:=St.start w
  repeat' (first|(with_reducible apply b9 b8);rfl;rfl;rfl|(with_reducible apply c9);rfl;(apply Ld.sl b8;rfl;exact hS.blkC 0 rfl rfl);rfl|refine yDn (by with_reducible constructor) ?_|(with_reducible apply k6);(iterate 4 rfl);assumption|(with_reducible apply q8);(iterate 4 rfl);rfl;rfl|(with_reducible apply i7);rfl;rfl;rfl;rfl|(with_reducible apply e9);rfl;assumption;rfl;rfl|(with_reducible apply e8);rfl;rfl|(with_reducible apply k9 hS);rfl;rfl;rfl;clear hS;intro g w' hS|(with_reducible apply n9);rfl;rfl;rfl;all_goals (intro hb hp;try (exfalso;omega))|(with_reducible apply a1U);rfl;rfl;rfl;all_goals (intro hb hp;try (exfalso;omega))|(with_reducible apply d7);rfl;all_goals (intro hb hp;try (exfalso;omega))|(with_reducible apply d8 hS);rfl;rfl;rfl;refine ⟨_,q7 _ _ _ _,?_⟩;clear hS;intro w' hS|(with_reducible apply d8 hS);rfl;rfl;rfl;refine ⟨_,hshe _ (k1.now hS),?_⟩;clear hS;intro w' hS)
  (refine j4 rfl ?_)
  exact ⟨rfl,hS.sub (xh2 _)⟩
 |true=>
  rw [hsh] at hshe hfe;rw [xh8] at hfe;by_cases hh:0<=hand/\hand<=(fr.length:Int) - 1;rotate_left
  ·rw [xh9 (fun h=>hh ⟨h.1,by omega⟩),xh7] at hfe;rw [hfe];refine yEn Tryz.func24 Tryz.ntmps24 (by kernel_rfl) (by kernel_rfl) rfl rfl ?_;have hS:=St.start w
   repeat' (first|(with_reducible apply b9 b8);rfl;rfl;rfl|(with_reducible apply c9);rfl;(first|apply Ld.sc b8;rfl;exact hS.blkC 0 rfl rfl|apply Ld.sl b8;rfl;exact hS.blkC 0 rfl rfl);rfl|(with_reducible apply a0R);rfl;rfl;omega;omega;rfl|refine yDn (by with_reducible constructor) ?_|((with_reducible apply k6);(iterate 4 rfl);first|rfl|assumption)|(with_reducible apply e9);rfl;(first|rfl|assumption);rfl;rfl|(with_reducible apply k9 hS);rfl;rfl;rfl;clear hS;intro g w' hS|(with_reducible apply n9);rfl;rfl;rfl;all_goals (intro hb hp;try (exfalso;omega))|(with_reducible apply a1U);rfl;rfl;rfl;all_goals (intro hb hp;try (exfalso;omega))|(with_reducible apply d7);rfl;all_goals (intro hb hp;try (exfalso;omega))|(with_reducible apply a0K);rfl;all_goals (intro hb hp;try (exfalso;omega))|(with_reducible apply d8 hS);rfl;rfl;rfl;refine ⟨_,q7 _ _ _ _,?_⟩;clear hS;intro w' hS|(with_reducible apply d8 hS);rfl;rfl;rfl;refine ⟨_,hshe _ (k1.now hS),?_⟩;clear hS;intro w' hS)
   (refine j4 rfl ?_)
   exact ⟨rfl,hS.sub (xh2 _)⟩
  rw [xi0 (⟨hh.1,by omega⟩:0<=hand/\hand < (fr.length:Int)),xh8] at hfe;refine yEn Tryz.func24 Tryz.ntmps24 (by kernel_rfl) (by kernel_rfl) rfl rfl ?_;have hS:=St.start w
  repeat' (first|(with_reducible apply b9 b8);rfl;rfl;rfl|(with_reducible apply c9);rfl;(first|apply Ld.sc b8;rfl;exact hS.blkC 0 rfl rfl|apply Ld.sl b8;rfl;exact hS.blkC 0 rfl rfl);rfl|(with_reducible apply a0R);rfl;rfl;omega;omega;rfl|refine yDn (by with_reducible constructor) ?_|((with_reducible apply k6);(iterate 4 rfl);first|rfl|assumption)|(with_reducible apply e9);rfl;(first|rfl|assumption);rfl;rfl|(with_reducible apply k9 hS);rfl;rfl;rfl;clear hS;intro g w' hS|(with_reducible apply n9);rfl;rfl;rfl;all_goals (intro hb hp;try (exfalso;omega))|(with_reducible apply a1U);rfl;rfl;rfl;all_goals (intro hb hp;try (exfalso;omega))|(with_reducible apply d7);rfl;all_goals (intro hb hp;try (exfalso;omega))|(with_reducible apply a0K);rfl;all_goals (intro hb hp;try (exfalso;omega))|(with_reducible apply d8 hS);rfl;rfl;rfl;refine ⟨_,q7 _ _ _ _,?_⟩;clear hS;intro w' hS|(with_reducible apply d8 hS);rfl;rfl;rfl;refine ⟨_,hshe _ (k1.now hS),?_⟩;clear hS;intro w' hS)
  refine a0p hS 3 [1] rfl sp.length (fun i=>((sp.map (·.s)).take i).all (t6 (shs sh) fr.length sl.length)=true) 0 rfl (xi5 _) rfl ?_;rintro i w1 hi hall hS';clear hS;have hS:=hS';clear hS';by_cases hlt:i < sp.length
  ·obtain ⟨x,hx⟩:=i9 (l:=sp) (i:=i) (by omega);have hxs:(sp.map (·.s))[i]?=some x.s:=d9 (f:=fun p:Sp=>p.s) hx;have hrow:=d9 (f:=spC) hx;obtain ⟨b,off,rfl,hro⟩:=k4.at_ (i:=i) hlt;have hfx:=fun w1 h=>hsf w1 h x (xd0 hx)
   cases hsp:t6 (shs sh) fr.length sl.length x.s with
   |false=>
    rw [hsp] at hfx
    repeat' (first|(with_reducible apply b9 b8);rfl;rfl;rfl|(with_reducible apply c9);rfl;(apply Ld.sl b8;rfl;exact hS.blkC 0 rfl rfl);rfl|refine yDn (by with_reducible constructor) ?_|(with_reducible apply d7);rfl;all_goals (intro hb hp;try (exfalso;omega)))
    (focus ((with_reducible apply e6 _ _ _ (by kernel_rfl) (by kernel_rfl) hS);(repeat' (first|(first|(with_reducible apply j3 b8);rfl;rfl|(with_reducible apply j0);rfl;(intro wd hd;replace hd:St _ _ wd _:=hd;(first|apply Ld.sl b8;rfl;exact hd.blkC 0 rfl rfl|apply Ld.st b8;rfl;(first|exact hd.blkR 0 rfl|exact hd.roR (by assumption) (by assumption));rfl));rfl|(with_reducible apply a0s b8);rfl;rfl;rfl;rfl;omega;rfl)|(with_reducible apply m7);rfl;rfl;rfl;refine ⟨_,fun wd hd=>hfx _ (hK0.now hd),?_⟩));all_goals ((with_reducible apply k8);intro w' hS';clear hS;have hS:=hS';clear hS')))
    repeat' (first|(with_reducible apply b9 b8);rfl;rfl;rfl|refine yDn (by with_reducible constructor) ?_|(with_reducible apply e8);rfl;rfl)
    (refine j4 rfl ?_)
    refine ⟨?_,hS.sub (xh2 _)⟩;have hno:(sp.map (·.s)).all (t6 (shs sh) fr.length sl.length)=false:=by
     rw [xi7];exact ⟨x.s,xd0 hxs,by rw [hsp];simp⟩
    rw [hfe,hno,xh7];rfl
   |true=>
    rw [hsp] at hfx
    repeat' (first|(with_reducible apply b9 b8);rfl;rfl;rfl|(with_reducible apply c9);rfl;(apply Ld.sl b8;rfl;exact hS.blkC 0 rfl rfl);rfl|refine yDn (by with_reducible constructor) ?_|(with_reducible apply d7);rfl;all_goals (intro hb hp;try (exfalso;omega)))
    (focus ((with_reducible apply e6 _ _ _ (by kernel_rfl) (by kernel_rfl) hS);(repeat' (first|(first|(with_reducible apply j3 b8);rfl;rfl|(with_reducible apply j0);rfl;(intro wd hd;replace hd:St _ _ wd _:=hd;(first|apply Ld.sl b8;rfl;exact hd.blkC 0 rfl rfl|apply Ld.st b8;rfl;(first|exact hd.blkR 0 rfl|exact hd.roR (by assumption) (by assumption));rfl));rfl|(with_reducible apply a0s b8);rfl;rfl;rfl;rfl;omega;rfl)|(with_reducible apply m7);rfl;rfl;rfl;refine ⟨_,fun wd hd=>hfx _ (hK0.now hd),?_⟩));all_goals ((with_reducible apply k8);intro w' hS';clear hS;have hS:=hS';clear hS')))
    repeat' (first|(with_reducible apply b9 b8);rfl;rfl;rfl|(with_reducible apply f9);rfl;rfl;omega;omega;rfl|refine yDn (by with_reducible constructor) ?_|(with_reducible apply f6);rfl;rfl)
    refine v9 (i + 1) (by exact Fr.sub_of rfl) (by omega) ?_ (by omega) hS;rw [s8 hxs,List.all_append,hall,xl3,hsp];rfl
  have hspa:(sp.map (·.s)).all (t6 (shs sh) fr.length sl.length)=true:=by
   rw [xa0 (by rw [xh1];omega)] at hall;exact hall
  clear hall;rw [hspa,xh8] at hfe;have hokp:∀ p ∈ sp,t6 (shs sh) fr.length sl.length p.s=true:=fun p hp=>xc7.1 hspa p.s (xh0.2 ⟨p,hp,rfl⟩);have hchk:∀ p ∈ sp,l7 p.s.areas=0:=fun p hp=>(a1h.1 (hokp p hp)).ar;have hroom:=fun w1 h=>b5y (w:=w1) (k:=⟨sh,fr,sl,sp,hand,.slice p1 sh.length c1,.slice p2 fr.length c2,.slice p3 sl.length c3,.slice p4 sp.length c4⟩) h hchk (by show sp.length<=4;omega);have hnm:=fun w1 h kd a=>b3c (w:=w1) (k:=⟨sh,fr,sl,sp,hand,.slice p1 sh.length c1,.slice p2 fr.length c2,.slice p3 sl.length c3,.slice p4 sp.length c4⟩) h hchk (by show sp.length<=4;omega) (fun p hp=>(a24 (hokp p hp)).1) kd a;unfold kvC at hroom hnm;dsimp only at hroom hnm;by_cases hrm:(sl.length:Int) < t5 (sp.map (·.s))
  ·rw [xh9 (by omega),xh7] at hfe;rw [hfe]
   repeat' (first|(with_reducible apply b9 b8);rfl;rfl;rfl|(with_reducible apply c9);rfl;(apply Ld.sl b8;rfl;exact hS.blkC 0 rfl rfl);rfl|refine yDn (by with_reducible constructor) ?_|(with_reducible apply d7);rfl;all_goals (intro hb hp;try (exfalso;omega)))
   (focus ((with_reducible apply e6 _ _ _ (by kernel_rfl) (by kernel_rfl) hS);(repeat' (first|(first|(with_reducible apply j3 b8);rfl;rfl|(with_reducible apply j0);rfl;(intro wd hd;replace hd:St _ _ wd _:=hd;(first|apply Ld.sl b8;rfl;exact hd.blkC 0 rfl rfl|apply Ld.st b8;rfl;exact hd.blkR 0 rfl;rfl));rfl)|(with_reducible apply m7);rfl;rfl;rfl;refine ⟨_,fun wd hd=>hroom _ (hK0.now hd),?_⟩));all_goals ((with_reducible apply k8);intro w' hS';clear hS;have hS:=hS';clear hS')))
   repeat' (first|(with_reducible apply b9 b8);rfl;rfl;rfl|refine yDn (by with_reducible constructor) ?_|(with_reducible apply d7);rfl;all_goals (intro hb hp;try (exfalso;omega)))
   (refine j4 rfl ?_)
   exact ⟨rfl,hS.sub (xh2 _)⟩
  rw [xi0 (by omega),xh8] at hfe
  repeat' (first|(with_reducible apply b9 b8);rfl;rfl;rfl|(with_reducible apply c9);rfl;(apply Ld.sl b8;rfl;exact hS.blkC 0 rfl rfl);rfl|refine yDn (by with_reducible constructor) ?_|(with_reducible apply d7);rfl;all_goals (intro hb hp;try (exfalso;omega)))
  (focus ((with_reducible apply e6 _ _ _ (by kernel_rfl) (by kernel_rfl) hS);(repeat' (first|(first|(with_reducible apply j3 b8);rfl;rfl|(with_reducible apply j0);rfl;(intro wd hd;replace hd:St _ _ wd _:=hd;(first|apply Ld.sl b8;rfl;exact hd.blkC 0 rfl rfl|apply Ld.st b8;rfl;exact hd.blkR 0 rfl;rfl));rfl)|(with_reducible apply m7);rfl;rfl;rfl;refine ⟨_,fun wd hd=>hroom _ (hK0.now hd),?_⟩));all_goals ((with_reducible apply k8);intro w' hS';clear hS;have hS:=hS';clear hS')))
  repeat' (first|(with_reducible apply b9 b8);rfl;rfl;rfl|refine yDn (by with_reducible constructor) ?_|(with_reducible apply d7);rfl;all_goals (intro hb hp;try (exfalso;omega)))
  refine a0p hS 4 [1] rfl fr.length (fun i=>∀ (j:Nat) f,j < i->fr[j]?=some f->a1s (shs sh) f (j8 (sp.map (·.s)) 1 (j:Nat))=true) 0 rfl (xi5 _) (fun _ _ h=>absurd h (Nat.not_lt_zero _)) ?_;rintro i w2 hi hall hS';clear hS;have hS:=hS';clear hS';by_cases hlt:i < fr.length
  ·obtain ⟨f,hf⟩:=i9 (l:=fr) (i:=i) (by omega);have hrow:=d9 (f:=fmC) hf;obtain ⟨b,off,rfl,hro⟩:=k2.at_ (i:=i) hlt;unfold fmC at hrow;have hn1:=fun w1 h=>hnm w1 h 1 (i:Nat);obtain ⟨p,q,a,hN,hN2⟩:=a73 (j8 (sp.map (·.s)) 1 (i:Nat));unfold nmV at hn1;rw [hN] at hn1;have hfl:=fun x (hx:a0Q (shs sh) a.z p=some x) w1 h=>b4j (w:=w1) (k:=⟨sh,fr,sl,sp,hand,.slice p1 sh.length c1,.slice (some ⟨b,off,none⟩) fr.length c2,.slice p3 sl.length c3,.slice p4 sp.length c4⟩) h (a:=a) (p:=p) (x:=x) hsh hx;unfold kvC at hfl;unfold arC at hn1 hfl;dsimp only at hn1 hfl;have hfn:=fun n (hn:n ∈ j8 (sp.map (·.s)) 1 (i:Nat))=>b0S hspa hn;obtain ⟨N,hNN⟩:∃ N,N=j8 (sp.map (·.s)) 1 (i:Nat):=⟨_,rfl⟩;rw [<- hNN] at hn1 hN2 hfn;obtain ⟨c,hc⟩:∃ c:Int,c=(N.length:Int):=⟨_,rfl⟩;rw [<- hc] at hn1;obtain ⟨dt,rf,dy,sn⟩:=f;dsimp only at hrow;have hfil:=hfl;have heq:=True.intro
   repeat' (first|(with_reducible apply b9 b8);rfl;rfl;rfl|(with_reducible apply c9);rfl;(first|apply Ld.sl b8;rfl;exact hS.blkC 0 rfl rfl|apply Ld.st b8;rfl;(first|exact hS.blkR 1 rfl|exact hS.roR (by assumption) (by assumption));rfl);rfl|(with_reducible apply l8 b8);rfl;rfl;rfl;rfl;omega;rfl|refine yDn (by with_reducible constructor) ?_|(with_reducible apply d6 hS b8);rfl;rfl;rfl;clear hS;intro g w' hS|(with_reducible apply d5 hS b8 (i:=0));(iterate 8 rfl);exact (rfl:_=[_,_,_,_]);clear hS;intro w' hS;simp only [List.set] at hS|(with_reducible apply d7);rfl;all_goals (intro hb hp;try (exfalso;omega))|(with_reducible apply d8 hS);rfl;rfl;rfl;refine ⟨_,hn1 _ (hK0.now hS),?_⟩;clear hS;intro w' hS)
   by_cases hr:rf=c;rotate_left
   ·have hdr:(!decide (rf=c))=true:=by rw [xh9 hr];rfl
    (focus ((with_reducible apply e6 _ _ _ (by kernel_rfl) (by kernel_rfl) hS);(repeat' ((first|(with_reducible apply j3 b8);rfl;rfl|(with_reducible apply j0);rfl;(intro wd hd;replace hd:St _ _ wd _:=hd;(apply Ld.sc b8;rfl;exact hd.blkC 1 rfl rfl));rfl|(first|(with_reducible apply a18);(iterate 4 rfl);(first|rfl|assumption);rfl|(with_reducible apply a1X);(iterate 5 rfl)|(with_reducible apply p9);rfl;(first|rfl|assumption);rfl;rfl))));all_goals ((with_reducible apply k8);intro w' hS';clear hS;have hS:=hS';clear hS')))
    repeat' (first|(with_reducible apply b9 b8);rfl;rfl;rfl|refine yDn (by with_reducible constructor) ?_|(with_reducible apply e8);rfl;rfl)
    (refine j4 rfl ?_)
    refine ⟨?_,hS.sub (xh2 _)⟩;rw [hfe,a10 hf (by rw [<- hNN,xl1];exact fun h=>hr ((a2t.1 h).refs.trans hc.symm)),xh7];rfl
   have hdr:(!decide (rf=c))=false:=by rw [xi0 hr];rfl
   cases N with
   |nil=>
    have hz:decide (c=0)=true:=xi0 hc;have hgt:decide (0 < c)=false:=xh9 (by rw [hc];simp);by_cases h0:(⟨dt,rf,dy,sn⟩:Fm)=fm0
    ·have heq:=b6c (⟨dt,rf,dy,sn⟩:Fm) fm0;rw [xi0 h0] at heq
     (focus ((with_reducible apply e6 _ _ _ (by kernel_rfl) (by kernel_rfl) hS);(repeat' (first|(first|(with_reducible apply j3 b8);rfl;rfl|(with_reducible apply j0);rfl;(intro wd hd;replace hd:St _ _ wd _:=hd;(first|apply Ld.sc b8;rfl;exact hd.blkC 1 rfl rfl|apply Ld.st b8;rfl;exact hd.blkR 1 rfl;rfl));rfl|(with_reducible apply a6l b8);rfl;rfl;exact (rfl:_=some [_,_,_,_]);rfl|(first|((with_reducible apply a0g);(iterate 4 rfl);first|rfl|assumption)|(with_reducible apply a18);(iterate 4 rfl);assumption;rfl|(with_reducible apply a1X);(iterate 5 rfl)|(with_reducible apply p9);rfl;assumption;rfl;rfl|(with_reducible apply p7);rfl;(first|rfl|assumption);rfl;rfl))|(with_reducible apply a6D);rfl;rfl;exact heq;rfl));all_goals ((with_reducible apply k8);intro w' hS';clear hS;have hS:=hS';clear hS')))
     repeat' (first|(with_reducible apply b9 b8);rfl;rfl;rfl|(with_reducible apply f9);rfl;rfl;omega;omega;rfl|refine yDn (by with_reducible constructor) ?_|(with_reducible apply f6);rfl;rfl)
     refine v9 (i + 1) (by exact Fr.sub_of rfl) (by omega) (fun j y hj hy=>?_) (by omega) hS.drop.drop;by_cases e:j=i
     ·subst e;rw [hf] at hy
      cases hy
      exact by rw [<- hNN];exact xi0 h0
     ·exact hall j y (by omega) hy
    ·have heq:=b6c (⟨dt,rf,dy,sn⟩:Fm) fm0;rw [xh9 h0] at heq
     (focus ((with_reducible apply e6 _ _ _ (by kernel_rfl) (by kernel_rfl) hS);(repeat' (first|(first|(with_reducible apply j3 b8);rfl;rfl|(with_reducible apply j0);rfl;(intro wd hd;replace hd:St _ _ wd _:=hd;(first|apply Ld.sc b8;rfl;exact hd.blkC 1 rfl rfl|apply Ld.st b8;rfl;exact hd.blkR 1 rfl;rfl));rfl|(with_reducible apply a6l b8);rfl;rfl;exact (rfl:_=some [_,_,_,_]);rfl|(first|(with_reducible apply a0g);(iterate 4 rfl);assumption|(with_reducible apply a18);(iterate 4 rfl);rfl;rfl|(with_reducible apply a1X);(iterate 5 rfl)|(with_reducible apply p9);rfl;(first|rfl|assumption);rfl;rfl|(with_reducible apply p7);rfl;assumption;rfl;rfl))|(with_reducible apply a6D);rfl;rfl;exact heq;rfl));all_goals ((with_reducible apply k8);intro w' hS';clear hS;have hS:=hS';clear hS')))
     repeat' (first|(with_reducible apply b9 b8);rfl;rfl;rfl|refine yDn (by with_reducible constructor) ?_|(with_reducible apply e8);rfl;rfl)
     (refine j4 rfl ?_)
     refine ⟨?_,hS.sub (xh2 _)⟩;rw [hfe,a10 hf (by rw [<- hNN];exact xh9 h0),xh7];rfl
   |cons n0 r=>
    rw [xb3] at hc;have hz:decide (c=0)=false:=xh9 (by omega);have hgt:decide (0 < c)=true:=xi0 (by omega);obtain ⟨hq1,hq2⟩:=hN2 n0 r rfl
    cases hal:a0X (n0::r) with
    |false=>
     rw [hal] at hq1;subst hq1
     (focus ((with_reducible apply e6 _ _ _ (by kernel_rfl) (by kernel_rfl) hS);(repeat' ((first|(with_reducible apply j3 b8);rfl;rfl|(with_reducible apply j0);rfl;(intro wd hd;replace hd:St _ _ wd _:=hd;(apply Ld.sc b8;rfl;exact hd.blkC 1 rfl rfl));rfl|(first|((with_reducible apply a0g);(iterate 4 rfl);first|rfl|assumption)|(with_reducible apply a18);(iterate 4 rfl);(first|rfl|assumption);rfl|(with_reducible apply a1X);(iterate 5 rfl)|(with_reducible apply p9);rfl;(first|rfl|assumption);rfl;rfl|(with_reducible apply p7);rfl;(first|rfl|assumption);rfl;rfl))));all_goals ((with_reducible apply k8);intro w' hS';clear hS;have hS:=hS';clear hS')))
     repeat' (first|(with_reducible apply b9 b8);rfl;rfl;rfl|refine yDn (by with_reducible constructor) ?_|(with_reducible apply e8);rfl;rfl)
     (refine j4 rfl ?_)
     refine ⟨?_,hS.sub (xh2 _)⟩;rw [hfe,a10 hf (by rw [<- hNN,xl1];intro h;rw [a3j.2 (a2t.1 h).same] at hal;cases hal),xh7];rfl
    |true=>
     obtain ⟨rfl,hza⟩:=hq2 hal;rw [hal] at hq1;subst hq1;by_cases hl:(dt.length:Int)=16;rotate_left
     ·have hdl:(!decide ((dt.length:Int)=16))=true:=by rw [xh9 hl];rfl
      (focus ((with_reducible apply e6 _ _ _ (by kernel_rfl) (by kernel_rfl) hS);(repeat' ((first|(with_reducible apply j3 b8);rfl;rfl|(with_reducible apply j0);rfl;(intro wd hd;replace hd:St _ _ wd _:=hd;(apply Ld.sc b8;rfl;exact hd.blkC 1 rfl rfl));rfl|(first|((with_reducible apply a0g);(iterate 4 rfl);first|rfl|assumption)|(with_reducible apply a18);(iterate 4 rfl);assumption;rfl|(with_reducible apply a1X);(iterate 5 rfl)|(with_reducible apply p9);rfl;assumption;rfl;rfl|(with_reducible apply p7);rfl;(first|rfl|assumption);rfl;rfl))));all_goals ((with_reducible apply k8);intro w' hS';clear hS;have hS:=hS';clear hS')))
      repeat' (first|(with_reducible apply b9 b8);rfl;rfl;rfl|refine yDn (by with_reducible constructor) ?_|(with_reducible apply e8);rfl;rfl)
      (refine j4 rfl ?_)
      refine ⟨?_,hS.sub (xh2 _)⟩;rw [hfe,a10 hf (by rw [<- hNN,xl1];exact fun h=>hl (by rw [(a2t.1 h).len (by simp)];rfl)),xh7];rfl
     have hdl:(!decide ((dt.length:Int)=16))=false:=by rw [xi0 hl];rfl
     have hbase:∀ c:Bool,a1s (shs sh) ⟨dt,rf,dy,sn⟩ (n0::r)=(decide (rf=((n0::r).length:Int)/\dt.length=16) && (a0X (n0::r) && (dy||decide (some dt=a0Q (shs sh) n0.2.z n0.1.page)))):=fun _=>rfl;have hbase:=hbase true;rw [hal,xi0 (⟨hr.trans hc,by omega⟩:rf=((n0::r).length:Int)/\dt.length=16),xh8,xh8] at hbase
     cases dy with
     |true=>
      (focus ((with_reducible apply e6 _ _ _ (by kernel_rfl) (by kernel_rfl) hS);(repeat' ((first|(with_reducible apply j3 b8);rfl;rfl|(with_reducible apply j0);rfl;(intro wd hd;replace hd:St _ _ wd _:=hd;(apply Ld.sc b8;rfl;exact hd.blkC 1 rfl rfl));rfl|(first|((with_reducible apply a0g);(iterate 4 rfl);first|rfl|assumption)|(with_reducible apply a18);(iterate 4 rfl);(first|rfl|assumption);rfl|(with_reducible apply p9);rfl;assumption;rfl;rfl|(with_reducible apply p7);rfl;(first|rfl|assumption);rfl;rfl))));all_goals ((with_reducible apply k8);intro w' hS';clear hS;have hS:=hS';clear hS')))
      repeat' (first|(with_reducible apply b9 b8);rfl;rfl;rfl|(with_reducible apply f9);rfl;rfl;omega;omega;rfl|refine yDn (by with_reducible constructor) ?_|(with_reducible apply f6);rfl;rfl)
      refine v9 (i + 1) (by exact Fr.sub_of rfl) (by omega) (fun j y hj hy=>?_) (by omega) hS.drop.drop;by_cases e:j=i
      ·subst e;rw [hf] at hy
       cases hy
       exact by rw [<- hNN];exact hbase
      ·exact hall j y (by omega) hy
     |false=>
      obtain ⟨x,hx⟩:=hfn n0 xc5;rw [hx,xl2] at hbase;have hfil:=hfl x (by rw [hza];exact hx);by_cases hxd:dt=x
      ·have hdx:(!decide (dt=x))=false:=by rw [xi0 hxd];rfl
       (focus ((with_reducible apply e6 _ _ _ (by kernel_rfl) (by kernel_rfl) hS);(repeat' (first|(first|(with_reducible apply j3 b8);rfl;rfl|(with_reducible apply j0);rfl;(intro wd hd;replace hd:St _ _ wd _:=hd;(first|apply Ld.sc b8;rfl;exact hd.blkC 1 rfl rfl|apply Ld.st b8;rfl;(first|exact hd.blkR 0 rfl|exact hd.blkR 2 rfl);rfl));rfl|(first|((with_reducible apply a0g);(iterate 4 rfl);first|rfl|assumption)|(with_reducible apply a18);(iterate 4 rfl);assumption;rfl|(with_reducible apply p9);rfl;(first|rfl|assumption);rfl;rfl|(with_reducible apply p7);rfl;(first|rfl|assumption);rfl;rfl))|(with_reducible apply m7);rfl;rfl;rfl;refine ⟨_,fun wd hd=>hfil _ (hK0.now hd),?_⟩));all_goals ((with_reducible apply k8);intro w' hS';clear hS;have hS:=hS';clear hS')))
       repeat' (first|(with_reducible apply b9 b8);rfl;rfl;rfl|(with_reducible apply f9);rfl;rfl;omega;omega;rfl|refine yDn (by with_reducible constructor) ?_|(with_reducible apply f6);rfl;assumption)
       refine v9 (i + 1) (by exact Fr.sub_of rfl) (by omega) (fun j y hj hy=>?_) (by omega) hS.drop.drop;by_cases e:j=i
       ·subst e;rw [hf] at hy
        cases hy
        exact by rw [<- hNN,hbase];exact xi0 (by rw [hxd])
       ·exact hall j y (by omega) hy
      ·have hdx:(!decide (dt=x))=true:=by rw [xh9 hxd];rfl
       (focus ((with_reducible apply e6 _ _ _ (by kernel_rfl) (by kernel_rfl) hS);(repeat' (first|(first|(with_reducible apply j3 b8);rfl;rfl|(with_reducible apply j0);rfl;(intro wd hd;replace hd:St _ _ wd _:=hd;(first|apply Ld.sc b8;rfl;exact hd.blkC 1 rfl rfl|apply Ld.st b8;rfl;(first|exact hd.blkR 0 rfl|exact hd.blkR 2 rfl);rfl));rfl|(first|((with_reducible apply a0g);(iterate 4 rfl);first|rfl|assumption)|(with_reducible apply a18);(iterate 4 rfl);assumption;rfl|(with_reducible apply p9);rfl;(first|rfl|assumption);rfl;rfl|(with_reducible apply p7);rfl;(first|rfl|assumption);rfl;rfl))|(with_reducible apply m7);rfl;rfl;rfl;refine ⟨_,fun wd hd=>hfil _ (hK0.now hd),?_⟩));all_goals ((with_reducible apply k8);intro w' hS';clear hS;have hS:=hS';clear hS')))
       repeat' (first|(with_reducible apply b9 b8);rfl;rfl;rfl|refine yDn (by with_reducible constructor) ?_|(with_reducible apply e8);rfl;assumption)
       (refine j4 rfl ?_)
       refine ⟨?_,hS.sub (xh2 _)⟩;rw [hfe,a10 hf (by rw [<- hNN,hbase];exact xh9 (fun h=>hxd (Option.some.inj h))),xh7];rfl
  have hfb:a1a ⟨shs sh,fr,sl,sp.map (·.s),hand⟩=true:=b0v (fun j f hf=>hall j f (by have:=e7 hf;have h9:(⟨shs sh,fr,sl,sp.map (·.s),hand⟩:Ker).frames.length=fr.length:=rfl;omega) hf);clear hall;rw [hfb,xh8] at hfe
  repeat' (first|(with_reducible apply b9 b8);rfl;rfl;rfl|(with_reducible apply c9);rfl;(apply Ld.sl b8;rfl;exact hS.blkC 0 rfl rfl);rfl|refine yDn (by with_reducible constructor) ?_|(with_reducible apply d7);rfl;all_goals (intro hb hp;try (exfalso;omega)))
  refine a0p hS 10 [1] rfl sl.length (fun i=>∀ (j:Nat) f,j < i->sl[j]?=some f->a15 f (j8 (sp.map (·.s)) 2 (j:Nat))=true) 0 rfl (xi5 _) (fun _ _ h=>absurd h (Nat.not_lt_zero _)) ?_;rintro i w3 hi hall hS';clear hS;have hS:=hS';clear hS';by_cases hlt:i < sl.length;rotate_left
  ·rw [b2I (fun j f hf=>hall j f (by have:=e7 hf;have h9:(⟨shs sh,fr,sl,sp.map (·.s),hand⟩:Ker).slots.length=sl.length:=rfl;omega) hf)] at hfe;rw [hfe]
   repeat' (first|(with_reducible apply b9 b8);rfl;rfl;rfl|(with_reducible apply c9);rfl;(apply Ld.sl b8;rfl;exact hS.blkC 0 rfl rfl);rfl|refine yDn (by with_reducible constructor) ?_|(with_reducible apply d7);rfl;all_goals (intro hb hp;try (exfalso;omega)))
   (refine j4 rfl ?_)
   exact ⟨rfl,hS.sub (xh2 _)⟩
  obtain ⟨f,hf⟩:=i9 (l:=sl) (i:=i) (by omega);have hrow:=d9 (f:=swC) hf;obtain ⟨b,off,rfl,hro⟩:=k3.at_ (i:=i) hlt;unfold swC at hrow;have hn1:=fun w1 h=>hnm w1 h 2 (i:Nat);obtain ⟨p,q,a,hN,hN2⟩:=a73 (j8 (sp.map (·.s)) 2 (i:Nat));unfold nmV at hn1;rw [hN] at hn1;unfold arC at hn1;dsimp only at hn1;obtain ⟨N,hNN⟩:∃ N,N=j8 (sp.map (·.s)) 2 (i:Nat):=⟨_,rfl⟩;rw [<- hNN] at hn1 hN2;obtain ⟨c,hc⟩:∃ c:Int,c=(N.length:Int):=⟨_,rfl⟩;rw [<- hc] at hn1;obtain ⟨dt,rf⟩:=f;dsimp only at hrow;have heq:=True.intro;by_cases hr:rf=c;rotate_left
  ·have hdr:(!decide (rf=c))=true:=by rw [xh9 hr];rfl
   repeat' (first|(with_reducible apply b9 b8);rfl;rfl;rfl|(with_reducible apply c9);rfl;(first|apply Ld.sc b8;rfl;exact hS.blkC 1 rfl rfl|apply Ld.sl b8;rfl;exact hS.blkC 0 rfl rfl|apply Ld.st b8;rfl;(first|exact hS.blkR 1 rfl|exact hS.roR (by assumption) (by assumption));rfl);rfl|(with_reducible apply l8 b8);rfl;rfl;rfl;rfl;omega;rfl|refine yDn (by with_reducible constructor) ?_|(with_reducible apply q8);(iterate 4 rfl);(first|rfl|assumption);rfl|(with_reducible apply a1n);(iterate 5 rfl)|(with_reducible apply i7);rfl;(first|rfl|assumption);rfl;rfl|(with_reducible apply e8);rfl;rfl|(with_reducible apply d6 hS b8);rfl;rfl;rfl;clear hS;intro g w' hS|(with_reducible apply d5 hS b8 (i:=0));(iterate 8 rfl);(first|exact (rfl:_=[_,_])|exact (rfl:_=[_,_,_,_]));clear hS;intro w' hS;simp only [List.set] at hS|(with_reducible apply d7);rfl;all_goals (intro hb hp;try (exfalso;omega))|(with_reducible apply d8 hS);rfl;rfl;rfl;refine ⟨_,hn1 _ (hK0.now hS),?_⟩;clear hS;intro w' hS)
   (refine j4 rfl ?_)
   refine ⟨?_,hS.sub (xh2 _)⟩;rw [hfe,a3e hf (by rw [<- hNN,xl1];exact fun h=>hr ((a22.1 h).refs.trans hc.symm))];rfl
  have hdr:(!decide (rf=c))=false:=by rw [xi0 hr];rfl
  cases N with
  |nil=>
   have hz:decide (c=0)=true:=xi0 hc;have hgt:decide (0 < c)=false:=xh9 (by rw [hc];simp);by_cases h0:(⟨dt,rf⟩:Sw)=sw0
   ·have heq:=b4k (⟨dt,rf⟩:Sw) sw0;rw [xi0 h0] at heq
    repeat' (first|(with_reducible apply b9 b8);rfl;rfl;rfl|(with_reducible apply c9);rfl;(first|apply Ld.sc b8;rfl;exact hS.blkC 1 rfl rfl|apply Ld.sl b8;rfl;exact hS.blkC 0 rfl rfl|apply Ld.st b8;rfl;(first|exact hS.blkR 1 rfl|exact hS.roR (by assumption) (by assumption));rfl);rfl|(with_reducible apply l8 b8);rfl;rfl;rfl;rfl;omega;rfl|(with_reducible apply f9);rfl;rfl;omega;omega;rfl|(with_reducible apply l6 b8);rfl;rfl;exact (rfl:_=some [_,_]);rfl|refine yDn (by with_reducible constructor) ?_|((with_reducible apply k6);(iterate 4 rfl);first|rfl|assumption)|(with_reducible apply q8);(iterate 4 rfl);assumption;rfl|(with_reducible apply a1n);(iterate 5 rfl)|(with_reducible apply i7);rfl;assumption;rfl;rfl|(with_reducible apply e9);rfl;(first|rfl|assumption);rfl;rfl|(with_reducible apply f6);rfl;rfl|(with_reducible apply d6 hS b8);rfl;rfl;rfl;clear hS;intro g w' hS|(with_reducible apply d5 hS b8 (i:=0));(iterate 8 rfl);(first|exact (rfl:_=[_,_])|exact (rfl:_=[_,_,_,_]));clear hS;intro w' hS;simp only [List.set] at hS|(with_reducible apply d7);rfl;all_goals (intro hb hp;try (exfalso;omega))|(with_reducible apply d8 hS);rfl;rfl;rfl;refine ⟨_,hn1 _ (hK0.now hS),?_⟩;clear hS;intro w' hS|(with_reducible apply b1U);rfl;rfl;exact heq;rfl)
    refine v9 (i + 1) (by exact Fr.sub_of rfl) (by omega) (fun j y hj hy=>?_) (by omega) hS.drop.drop;by_cases e:j=i
    ·subst e;rw [hf] at hy
     cases hy
     exact by rw [<- hNN];exact xi0 h0
    ·exact hall j y (by omega) hy
   ·have heq:=b4k (⟨dt,rf⟩:Sw) sw0;rw [xh9 h0] at heq
    repeat' (first|(with_reducible apply b9 b8);rfl;rfl;rfl|(with_reducible apply c9);rfl;(first|apply Ld.sc b8;rfl;exact hS.blkC 1 rfl rfl|apply Ld.sl b8;rfl;exact hS.blkC 0 rfl rfl|apply Ld.st b8;rfl;(first|exact hS.blkR 1 rfl|exact hS.roR (by assumption) (by assumption));rfl);rfl|(with_reducible apply l8 b8);rfl;rfl;rfl;rfl;omega;rfl|(with_reducible apply l6 b8);rfl;rfl;exact (rfl:_=some [_,_]);rfl|refine yDn (by with_reducible constructor) ?_|(with_reducible apply k6);(iterate 4 rfl);assumption|(with_reducible apply q8);(iterate 4 rfl);rfl;rfl|(with_reducible apply a1n);(iterate 5 rfl)|(with_reducible apply i7);rfl;(first|rfl|assumption);rfl;rfl|(with_reducible apply e9);rfl;assumption;rfl;rfl|(with_reducible apply e8);rfl;rfl|(with_reducible apply d6 hS b8);rfl;rfl;rfl;clear hS;intro g w' hS|(with_reducible apply d5 hS b8 (i:=0));(iterate 8 rfl);(first|exact (rfl:_=[_,_])|exact (rfl:_=[_,_,_,_]));clear hS;intro w' hS;simp only [List.set] at hS|(with_reducible apply d7);rfl;all_goals (intro hb hp;try (exfalso;omega))|(with_reducible apply d8 hS);rfl;rfl;rfl;refine ⟨_,hn1 _ (hK0.now hS),?_⟩;clear hS;intro w' hS|(with_reducible apply b1U);rfl;rfl;exact heq;rfl)
    (refine j4 rfl ?_)
    refine ⟨?_,hS.sub (xh2 _)⟩;rw [hfe,a3e hf (by rw [<- hNN];exact xh9 h0)];rfl
  |cons n0 r=>
   rw [xb3] at hc;have hz:decide (c=0)=false:=xh9 (by omega);have hgt:decide (0 < c)=true:=xi0 (by omega);obtain ⟨hq1,hq2⟩:=hN2 n0 r rfl
   cases hal:a0X (n0::r) with
   |false=>
    rw [hal] at hq1;subst hq1
    repeat' (first|(with_reducible apply b9 b8);rfl;rfl;rfl|(with_reducible apply c9);rfl;(first|apply Ld.sc b8;rfl;exact hS.blkC 1 rfl rfl|apply Ld.sl b8;rfl;exact hS.blkC 0 rfl rfl|apply Ld.st b8;rfl;(first|exact hS.blkR 1 rfl|exact hS.roR (by assumption) (by assumption));rfl);rfl|(with_reducible apply l8 b8);rfl;rfl;rfl;rfl;omega;rfl|refine yDn (by with_reducible constructor) ?_|((with_reducible apply k6);(iterate 4 rfl);first|rfl|assumption)|(with_reducible apply q8);(iterate 4 rfl);(first|rfl|assumption);rfl|(with_reducible apply i7);rfl;(first|rfl|assumption);rfl;rfl|(with_reducible apply e9);rfl;(first|rfl|assumption);rfl;rfl|(with_reducible apply e8);rfl;rfl|(with_reducible apply d6 hS b8);rfl;rfl;rfl;clear hS;intro g w' hS|(with_reducible apply d5 hS b8 (i:=0));(iterate 8 rfl);(first|exact (rfl:_=[_,_])|exact (rfl:_=[_,_,_,_]));clear hS;intro w' hS;simp only [List.set] at hS|(with_reducible apply d7);rfl;all_goals (intro hb hp;try (exfalso;omega))|(with_reducible apply d8 hS);rfl;rfl;rfl;refine ⟨_,hn1 _ (hK0.now hS),?_⟩;clear hS;intro w' hS)
    (refine j4 rfl ?_)
    refine ⟨?_,hS.sub (xh2 _)⟩;rw [hfe,a3e hf (by rw [<- hNN,xl1];intro h;rw [a3j.2 (a22.1 h).same] at hal;cases hal)];rfl
   |true=>
    rw [hal] at hq1;subst hq1;by_cases hl:(dt.length:Int)=16;rotate_left
    ·have hdl:(!decide ((dt.length:Int)=16))=true:=by rw [xh9 hl];rfl
     repeat' (first|(with_reducible apply b9 b8);rfl;rfl;rfl|(with_reducible apply c9);rfl;(first|apply Ld.sc b8;rfl;exact hS.blkC 1 rfl rfl|apply Ld.sl b8;rfl;exact hS.blkC 0 rfl rfl|apply Ld.st b8;rfl;(first|exact hS.blkR 1 rfl|exact hS.roR (by assumption) (by assumption));rfl);rfl|(with_reducible apply l8 b8);rfl;rfl;rfl;rfl;omega;rfl|refine yDn (by with_reducible constructor) ?_|((with_reducible apply k6);(iterate 4 rfl);first|rfl|assumption)|(with_reducible apply q8);(iterate 4 rfl);assumption;rfl|(with_reducible apply i7);rfl;assumption;rfl;rfl|(with_reducible apply e9);rfl;(first|rfl|assumption);rfl;rfl|(with_reducible apply e8);rfl;assumption|(with_reducible apply d6 hS b8);rfl;rfl;rfl;clear hS;intro g w' hS|(with_reducible apply d5 hS b8 (i:=0));(iterate 8 rfl);(first|exact (rfl:_=[_,_])|exact (rfl:_=[_,_,_,_]));clear hS;intro w' hS;simp only [List.set] at hS|(with_reducible apply d7);rfl;all_goals (intro hb hp;try (exfalso;omega))|(with_reducible apply d8 hS);rfl;rfl;rfl;refine ⟨_,hn1 _ (hK0.now hS),?_⟩;clear hS;intro w' hS)
     (refine j4 rfl ?_)
     refine ⟨?_,hS.sub (xh2 _)⟩;rw [hfe,a3e hf (by rw [<- hNN,xl1];exact fun h=>hl (by rw [(a22.1 h).len (by simp)];rfl))];rfl
    have hdl:(!decide ((dt.length:Int)=16))=false:=by rw [xi0 hl];rfl
    have hbase:a15 ⟨dt,rf⟩ (n0::r)=(decide (rf=((n0::r).length:Int)/\dt.length=16) && a0X (n0::r)):=rfl;rw [hal,xi0 (⟨hr.trans hc,by omega⟩:rf=((n0::r).length:Int)/\dt.length=16),xh8] at hbase
    repeat' (first|(with_reducible apply b9 b8);rfl;rfl;rfl|(with_reducible apply c9);rfl;(first|apply Ld.sc b8;rfl;exact hS.blkC 1 rfl rfl|apply Ld.sl b8;rfl;exact hS.blkC 0 rfl rfl|apply Ld.st b8;rfl;(first|exact hS.blkR 1 rfl|exact hS.roR (by assumption) (by assumption));rfl);rfl|(with_reducible apply l8 b8);rfl;rfl;rfl;rfl;omega;rfl|(with_reducible apply f9);rfl;rfl;omega;omega;rfl|refine yDn (by with_reducible constructor) ?_|((with_reducible apply k6);(iterate 4 rfl);first|rfl|assumption)|(with_reducible apply q8);(iterate 4 rfl);assumption;rfl|(with_reducible apply i7);rfl;assumption;rfl;rfl|(with_reducible apply e9);rfl;(first|rfl|assumption);rfl;rfl|(with_reducible apply f6);rfl;assumption|(with_reducible apply d6 hS b8);rfl;rfl;rfl;clear hS;intro g w' hS|(with_reducible apply d5 hS b8 (i:=0));(iterate 8 rfl);(first|exact (rfl:_=[_,_])|exact (rfl:_=[_,_,_,_]));clear hS;intro w' hS;simp only [List.set] at hS|(with_reducible apply d7);rfl;all_goals (intro hb hp;try (exfalso;omega))|(with_reducible apply d8 hS);rfl;rfl;rfl;refine ⟨_,hn1 _ (hK0.now hS),?_⟩;clear hS;intro w' hS)
    refine v9 (i + 1) (by exact Fr.sub_of rfl) (by omega) (fun j y hj hy=>?_) (by omega) hS.drop.drop;by_cases e:j=i
    ·subst e;rw [hf] at hy
     cases hy
     exact by rw [<- hNN];exact hbase
    ·exact hall j y (by omega) hy
theorem a6A:∀ {l:List Int} {lo hi:Int},Rises l->(∀ p ∈ l,lo<=p/\p < hi)->lo<=hi->(l.length:Int)<=hi - lo
 |[],lo,hi,_,_,h=>by simp;omega
 |p::l,lo,hi,hr,hp,h=>by
  have h1:=hp p xc5;have ih:=a6A (l:=l) (lo:=p + 1) (hi:=hi) (xd7.1 hr).2 (fun q hq=>⟨by have:=(xd7.1 hr).1 q hq;omega,(hp q (xc6 _ hq)).2⟩) (by omega);rw [xb3];omega
theorem a5b {α:Type} (p:α->Bool):∀ (l:List α),l.length=(l.filter p).length + (l.filter fun x=>!p x).length
 |[]=>rfl
 |x::l=>by
  have ih:=a5b p l
  cases hx:p x with
  |true=>
   rw [xj9 hx,xk2 (by simp [hx]),xb3,xb3];omega
  |false=>
   rw [xk2 (by simp [hx]),xj9 (by simp [hx]),xb3,xb3];omega
theorem a5o {α:Type} (p q:α->Bool):∀ (l:List α),(∀ x ∈ l,¬(p x=true/\q x=true))->(l.filter fun x=>p x||q x).length=(l.filter p).length + (l.filter q).length
 |[],_=>rfl
 |x::l,h=>by
  have ih:=a5o p q l (fun y hy=>h y (xc6 _ hy));have hx:=h x xc5
  cases h1:p x with
  |true=>
   have h2:q x=false:=by simpa [h1] using hx
   rw [xj9 (by simp [h1]),xj9 h1,xk2 (by simp [h2]),xb3,xb3];omega
  |false=>
   cases h2:q x with
   |true=>
    rw [xj9 (by simp [h2]),xk2 (by simp [h1]),xj9 h2,xb3,xb3];omega
   |false=>
    rw [xk2 (by simp [h1,h2]),xk2 (by simp [h1]),xk2 (by simp [h2])];omega
theorem a6R:∀ {A:List Ar} {e0:Int},v8 e0 A->∀ {l:List Int},Rises l->(∀ p ∈ l,(n7 A p).isSome=true)->(l.length:Int)<=r6 A
 |[],_,_,l,_,h=>by
  cases l with
  |nil=>simp [r6]
  |cons p l=>have:=h p xc5;simp [n7] at this
 |a::A,e0,hA,l,hr,h=>by
  obtain ⟨h1,h2,h3⟩:=hA;have hok:=h1;unfold Ar.ok at hok;have hlt:∀ b ∈ A,a.fin<=b.pg:=fun b hb=>(a5B h3 b hb).1;rw [a5b (fun p=>decide (p < a.fin)) l];have c1:=a6A (l:=l.filter fun p=>decide (p < a.fin)) (lo:=a.pg) (hi:=a.fin) (hr.sublist (List.filter_sublist)) (fun p hp=>by
   rw [xi6,xb5] at hp;refine ⟨?_,hp.2⟩;have hs:=h p hp.1;unfold n7 at hs;by_cases hb:a0k p a=true
   ·unfold a0k at hb;rw [xb5] at hb;exact hb.1
   ·rw [xk5 hb] at hs;obtain ⟨b,hbb⟩:=xg7.1 hs;have h4:=hlt b (xj3 hbb);have h5:=xg8 hbb;unfold a0k at h5;rw [xb5] at h5;omega) (by unfold Ar.fin;omega)
  have c2:=a6R h3 (l:=l.filter fun p=>!decide (p < a.fin)) (hr.sublist (List.filter_sublist)) (fun p hp=>by
   rw [xi6,xc8,xm0] at hp;have hs:=h p hp.1;unfold n7 at hs |-;rw [xk5] at hs
   ·exact hs
   ·unfold a0k;rw [xb5];omega)
  unfold Ar.fin at c1;show _<=a.n + r6 A;unfold Ar.fin at c2 |-
  push_cast
  omega
theorem b4U {sh:List Sh} {nf ns:Int} {s:Sc} (h:b0G sh nf ns s):(s.entries.length:Int)<=r6 s.areas:=by
 have:=a6R (r7.1 h.ar).2.1 h.rises (fun p hp=>by
  obtain ⟨e,he,rfl⟩:=xh0.1 hp;exact (h.ents e he).1)
 unfold m0 at this
 rwa [xh1] at this
theorem a6F {sh:List Sh} {nf ns:Int}:∀ {L:List Sc},(∀ s ∈ L,b0G sh nf ns s)->((a0P L).length:Int)<=t5 L
 |[],_=>by simp [a0P,t5]
 |s::L,h=>by
  have h1:=b4U (h s xc5);have h2:=a6F (L:=L) (fun x hx=>h x (xc6 _ hx));have e1:a0P (s::L)=s.entries.map (a0U s)++a0P L:=by unfold a0P;simp
  have e2:t5 (s::L)=r6 s.areas + t5 L:=by unfold t5;simp
  rw [e1,e2,xe9,xh1];omega
theorem b0t (X:List Nm):∀ (n:Nat),(∀ i:Nat,i < n->X.filter (fun (m:Nm)=>decide (m.1.kind=2/\m.1.at_=((i:Nat):Int)))≠[])->n<=(X.filter fun (m:Nm)=>decide (m.1.kind=2/\0<=m.1.at_/\m.1.at_ < ((n:Nat):Int))).length
 |0,_=>xi5 _
 |n + 1,h=>by
  have ih:=b0t X n (fun i hi=>h i (by omega));have hn:=xa3.2 (h n (by omega));have e:(X.filter fun (m:Nm)=>decide (m.1.kind=2/\0<=m.1.at_/\m.1.at_ < ((n + 1:Nat):Int)))=X.filter (fun (m:Nm)=>(decide (m.1.kind=2/\0<=m.1.at_/\m.1.at_ < ((n:Nat):Int)))||decide (m.1.kind=2/\m.1.at_=((n:Nat):Int))):=by
   refine congrArg (fun p=>List.filter p X) (funext fun m=>?_);rw [xc9,Bool.or_eq_true,xb5,xb5,xb5];omega
  rw [e,a5o _ _ _ (fun x _=>by rw [xb5,xb5];omega)];omega
theorem b01 {α:Type} (p q:α->Bool) (l:List α) (h:∀ x ∈ l,¬(p x=true/\q x=true)):(l.filter p).length + (l.filter q).length<=l.length:=by
 rw [<- a5o p q l h];exact xm1 _ _
theorem a71 {K:Ker} (h:Right K) {f:Nat} (hf:f < K.frames.length) (hr:(j7 K.frames f).refs≠0):∃ t,a2B K.slots=some t:=by
 cases hfs:a2B K.slots with
 |some t=>exact ⟨t,rfl⟩
 |none=>
  exfalso;have hno:=b0I hfs;have hroom:=a6F (L:=K.spaces) (fun s hs=>a1h.1 (h.spaces s hs));have h1:=h.room;have hc:=b0t (a0P K.spaces) K.slots.length (fun i hi=>by
   rw [a1i];intro e;have:=h.sl i _ (xe1 hi);rw [e] at this;exact hno _ (xe2 hi) this.refs)
  have hff:=xe1 hf;have h2:=h.fr f _ hff;rw [o7 hff] at hr;have h3:(j8 K.spaces 1 (f:Nat)).length≠0:=fun e=>hr (by rw [h2.refs,e];rfl);rw [<- a1i] at h3;have h4:=b01 (fun (m:Nm)=>decide (m.1.kind=2/\0<=m.1.at_/\m.1.at_ < ((K.slots.length:Nat):Int))) (fun (n:Nm)=>decide (n.1.kind=1/\n.1.at_=((f:Nat):Int))) (a0P K.spaces) (fun x _=>by rw [xb5,xb5];omega);omega
def a72 (l:List Fm):Nat:=l.countP fun f=>f.seen
def a8e (n h:Nat) (held:List Nat):Nat:=if h ∈ held then (if a0m n h ∈ held then 2 else 1) else 0
def a1A (fr:List Fm) (h:Nat) (held:List Nat):Nat:=3 * a72 fr + a8e fr.length h held
theorem a6O {n h:Nat} (hn:h < n):a0m n h < n:=by unfold a0m;split <;> omega
theorem a4R (n h:Nat) (held:List Nat):a8e n h held<=2:=by unfold a8e;split <;> (try split) <;> omega
theorem a6N {n h:Nat} {held:List Nat} (h3:3<=n) (hn:h < n) (hl:held.length<=2) (hh:h ∈ held):a8e n (a0m n h) held < a8e n h held:=by
 unfold a8e;rw [xf0 hh];by_cases h1:a0m n h ∈ held
 ·rw [xf0 h1,xf0 h1,xf1]
  ·omega
  ·intro h2;have hnd:[h,a0m n h,a0m n (a0m n h)].Nodup:=by
    have e1:h≠a0m n h:=by unfold a0m;split <;> omega
    have e2:h≠a0m n (a0m n h):=by unfold a0m;split <;> split <;> omega
    have e3:a0m n h≠a0m n (a0m n h):=by unfold a0m;split <;> split <;> omega
    simp [e1,e2,e3]
   have:=a5x hnd (m:=held) (fun x hx=>by
    rcases xc4.1 hx with rfl|hx
    ·exact hh
    rcases xc4.1 hx with rfl|hx
    ·exact h1
    rcases xc4.1 hx with rfl|hx
    ·exact h2
    ·cases hx)
   simp at this;omega
 ·rw [xf1 h1,xf1 h1];omega
theorem a5F:∀ {l:List Fm} {i:Nat} {f x:Fm},l[i]?=some f->f.seen=true->x.seen=false->a72 (l.set i x) + 1=a72 l
 |[],_,_,_,h,_,_=>by simp at h
 |a::l,0,f,x,h,hf,hx=>by
  simp at h;subst h;unfold a72;rw [xf9,List.countP_cons_of_pos hf,List.countP_cons_of_neg (by simp [hx])]
 |a::l,i + 1,f,x,h,hf,hx=>by
  have ih:=a5F (l:=l) (i:=i) (by simpa using h) hf hx;unfold a72 at ih |-;rw [List.set_cons_succ,List.countP_cons,List.countP_cons];omega
def b1s (a b:Fm):Prop:=a.data=b.data/\a.refs=b.refs/\a.dirty=b.dirty
theorem a2v {l:List Fm} {i j:Nat} {x:Fm}:j7 (l.set i x) j=if i=j/\j < l.length then x else j7 l j:=by
 unfold j7;rw [xe0];by_cases e:i=j
 ·subst e;rw [xf0 rfl];by_cases h:i < l.length
  ·rw [xf0 h,xf0 ⟨rfl,h⟩];rfl
  ·rw [xf1 h,xf1 (fun hh=>h hh.2),xm2 (by omega)]
 ·rw [xf1 e,xf1 (fun hh=>e hh.1)]
theorem a6w {l:List Sw} {i j:Nat} {x:Sw}:a0T (l.set i x) j=if i=j/\j < l.length then x else a0T l j:=by
 unfold a0T;rw [xe0];by_cases e:i=j
 ·subst e;rw [xf0 rfl];by_cases h:i < l.length
  ·rw [xf0 h,xf0 ⟨rfl,h⟩];rfl
  ·rw [xf1 h,xf1 (fun hh=>h hh.2),xm2 (by omega)]
 ·rw [xf1 e,xf1 (fun hh=>e hh.1)]
theorem a6E {held:List Nat} (hl:held.length<=2):∀ (k:Nat) {fr:List Fm} {h:Nat},3<=fr.length->h < fr.length->a1A fr h held < k ->
  (a01 k fr h held).2.2 < fr.length/\(a01 k fr h held).2.2 ∉ held/\(a01 k fr h held).2.1 < fr.length/\(a01 k fr h held).1.length=fr.length/\(∀ i,b1s (j7 (a01 k fr h held).1 i) (j7 fr i))/\∀ i ∈ held,j7 (a01 k fr h held).1 i=j7 fr i
 |0,_,_,_,_,hm=>absurd hm (Nat.not_lt_zero _)
 |k + 1,fr,h,h3,hn,hm=>by
  unfold a01;by_cases hh:h ∈ held
  ·rw [xf0 hh];have hd:=a6N h3 hn hl hh;exact a6E hl k h3 (a6O hn) (by unfold a1A at hm |-;omega)
  ·rw [xf1 hh];have hget:=xe1 hn
   cases hs:(j7 fr h).seen with
   |false=>
    rw [xf1 (by simp)];exact ⟨hn,hh,a6O hn,rfl,fun i=>⟨rfl,rfl,rfl⟩,fun i _=>rfl⟩
   |true=>
    rw [xf0 rfl];have hse:=a5F (x:=⟨(j7 fr h).data,(j7 fr h).refs,(j7 fr h).dirty,false⟩) hget (by rw [<- o7 hget];exact hs) rfl;have hd2:=a4R fr.length (a0m fr.length h) held;have hlen:(fr.set h ⟨(j7 fr h).data,(j7 fr h).refs,(j7 fr h).dirty,false⟩).length=fr.length:=by simp
    have ih:=a6E hl k (fr:=fr.set h ⟨(j7 fr h).data,(j7 fr h).refs,(j7 fr h).dirty,false⟩) (h:=a0m fr.length h) (by rw [hlen];exact h3) (by rw [hlen];exact a6O hn) (by unfold a1A at hm |-;rw [hlen];omega);rw [hlen] at ih;obtain ⟨i1,i2,i3,i4,i5,i6⟩:=ih;refine ⟨i1,i2,i3,i4,fun i=>?_,fun i hi=>?_⟩
    ·have h5:=i5 i;rw [a2v] at h5;by_cases e:h=i/\i < fr.length
     ·rw [xf0 e] at h5;obtain ⟨rfl,-⟩:=e;exact h5
     ·rw [xf1 e] at h5;exact h5
    ·rw [i6 i hi,a2v,xf1];rintro ⟨rfl,-⟩;exact hh hi
theorem a8n {fr:List Fm} (h64:fr.length<=64) (h:Nat) (held:List Nat):a1A fr h held < 5000:=by
 unfold a1A a72;have h1:=List.countP_le_length (p:=fun (f:Fm)=>f.seen) (l:=fr);have h2:=a4R fr.length h held;omega
theorem FmOk.alike {sh:List Sh} {f g:Fm} {N:List Nm} (h:FmOk sh f N) (ha:b1s g f) (hr:f.refs≠0):FmOk sh g N:=by
 obtain ⟨a1,a2,a3⟩:=ha;refine ⟨by rw [a2];exact h.refs,fun e=>absurd (by rw [h.refs,e];rfl) hr,by rw [a1];exact h.len,h.same,fun n hn=>by rw [a1,a3];exact h.data n hn⟩
theorem a8R {K:Ker} (h:Right K) {held:List Nat} (hl:held.length<=2) (hfree:a4V K.frames=none) :
  Right ⟨K.sheets,(a0w K held).1,K.slots,K.spaces,((a0w K held).2.1:Nat)⟩/\(a0w K held).2.2 < K.frames.length/\(a0w K held).2.2 ∉ held/\(∀ i,b1s (j7 (a0w K held).1 i) (j7 K.frames i))/\(∀ i ∈ held,j7 (a0w K held).1 i=j7 K.frames i)/\(a0w K held).1.length=K.frames.length:=by
 have hh:=h.hand;have hc:=h.cnt;obtain ⟨c1,c2,c3,c4,c5,c6⟩:=a6E hl 5000 (fr:=K.frames) (h:=K.hand.toNat) hc.1 (by omega) (a8n hc.2.1 _ _);refine ⟨⟨by dsimp only [a0w];rw [c4];exact hc,h.rise,?_,?_,h.room,fun i g hg=>?_,h.sl⟩,c1,c2,c5,c6,c4⟩
 ·show 0<=(((a01 5000 K.frames K.hand.toNat held).2.1:Nat):Int)/\(((a01 5000 K.frames K.hand.toNat held).2.1:Nat):Int) < ((a01 5000 K.frames K.hand.toNat held).1.length:Int);rw [c4];omega
 ·intro s hs;show t6 K.sheets ((a01 5000 K.frames K.hand.toNat held).1.length:Int) K.slots.length s=true;rw [c4];exact h.spaces s hs
 ·replace hg:(a01 5000 K.frames K.hand.toNat held).1[i]?=some g:=hg;have hil:i < K.frames.length:=by have:=e7 hg;omega
  have hig:=xe1 hil;have:=c5 i;rw [o7 hg,o7 hig] at this;exact (h.fr i _ hig).alike this (a4L hfree _ (xe2 hil))
theorem a0n {l:List En} {p:Int} {e:En} (h:m6 l p=some e):e ∈ l/\e.page=p:=⟨xj3 h,by have:=xg8 h;simpa using this⟩
theorem a3K {l:List En} (hr:Rises (m0 l)) {e:En} (h:e ∈ l):m6 l e.page=some e:=by
 induction l with
 |nil=>cases h
 |cons a l ih=>
  unfold m6;have hp:=xd7.1 hr;rcases xc4.1 h with rfl|h
  ·rw [List.find?_cons_of_pos (by simp)]
  ·have:a.page < e.page:=hp.1 e.page (xh0.2 ⟨e,h,rfl⟩);rw [xk5 (by simp;omega)];exact ih hp.2 h
theorem a1M {l:List En} {p:Int}:m6 l p=none ↔ p ∉ m0 l:=by
 unfold m6 m0;rw [xj0,xh0];constructor
 ·rintro h ⟨e,he,rfl⟩;exact h e he (by simp)
 ·intro h e he hp;exact h ⟨e,he,by simpa using hp⟩
theorem a5M {f:Int} {t:Option Int} {e x:En} (h:y9 f t e=some x):x.page=e.page:=by
 unfold y9 at h
 split at h
 ·cases t with
  |none=>cases h
  |some s=>cases h;rfl
 ·cases h;rfl
theorem b0i {f:Int} {t:Option Int} {l:List En} (hr:Rises (m0 l)) (p:Int):m6 (l.filterMap (y9 f t)) p=(m6 l p).bind (y9 f t):=by
 have hr2:=hr.sublist (a2H f t l)
 cases h:m6 l p with
 |none=>
  rw [a1M] at h;exact a1M.2 fun hp=>h ((a2H f t l).subset hp)
 |some e=>
  obtain ⟨he,rfl⟩:=a0n h;show _=y9 f t e
  cases hx:y9 f t e with
  |some x=>
   have:=a3K hr2 (List.mem_filterMap.2 ⟨e,he,hx⟩)
   rwa [a5M hx] at this
  |none=>
   rw [a1M];intro hp;obtain ⟨y,hy,hyp⟩:=xh0.1 hp;obtain ⟨z,hz,hzy⟩:=List.mem_filterMap.1 hy;have h1:=a5M hzy;have h2:=a3K hr hz;rw [<- h1,hyp,h] at h2
   cases h2
   rw [hx] at hzy
   cases hzy
theorem a0A {K:Ker} {sp:Nat} {s:Sc} (h:K.spaces[sp]?=some s):a0C K sp=s:=by unfold a0C;rw [h];rfl
theorem a5w {K:Ker} {sp:Nat} (h:K.spaces[sp]?=none):a0C K sp=sc0:=by unfold a0C;rw [h];rfl
theorem a3g {K:Ker} {sp:Nat} {s:Sc} {e:En} (h:K.spaces[sp]?=some s) (he:e ∈ s.entries):a0U s e ∈ j8 K.spaces e.kind e.at_:=by
 rw [a0G,xg9];refine ⟨s,xd0 h,?_⟩;unfold nm1;exact xh0.2 ⟨e,xi6.2 ⟨he,by simp⟩,rfl⟩
theorem b5o {K:Ker} {sp:Nat} {s:Sc} (h:K.spaces[sp]?=some s) (e:En):(a0U s e).2.z=zAt K sp e.page:=by
 unfold zAt l5 a0U;rw [a0A h]
theorem Right.ent {K:Ker} (h:Right K) {sp:Nat} {s:Sc} {e:En} (hs:K.spaces[sp]?=some s) (he:e ∈ s.entries) :
  (n7 s.areas e.page).isSome=true/\((e.kind=1/\(∃ f:Nat,e.at_=(f:Nat)/\f < K.frames.length))\/(e.kind=2/\∃ f:Nat,e.at_=(f:Nat)/\f < K.slots.length)):=by
 have h1:=(a1h.1 (h.spaces s (xd0 hs))).ents e he;refine ⟨h1.1,?_⟩;rcases h1.2 with ⟨a,b,c⟩|⟨a,b,c⟩
 ·exact xd6 ⟨a,e.at_.toNat,by omega,by omega⟩
 ·exact xd3 ⟨a,e.at_.toNat,by omega,by omega⟩
structure SameP (K K':Ker):Prop where
 sheets:K'.sheets=K.sheets
 nfr:K'.frames.length=K.frames.length
 nsl:K'.slots.length=K.slots.length
 nsp:K'.spaces.length=K.spaces.length
 ar:∀ sp,l5 K' sp=l5 K sp
 live:∀ sp,(a0C K' sp).live=(a0C K sp).live
 peek:∀ sp p,a0b K' sp p=a0b K sp p
theorem SameP.refl (K:Ker):SameP K K:=⟨rfl,rfl,rfl,rfl,fun _=>rfl,fun _=>rfl,fun _ _=>rfl⟩
theorem SameP.trans {K K' K2:Ker} (h:SameP K K') (h2:SameP K' K2):SameP K K2:=⟨h2.sheets.trans h.sheets,h2.nfr.trans h.nfr,h2.nsl.trans h.nsl,h2.nsp.trans h.nsp,fun s=>(h2.ar s).trans (h.ar s),fun s=>(h2.live s).trans (h.live s),fun s p=>(h2.peek s p).trans (h.peek s p)⟩
theorem a3J {K K':Ker} {sp:Nat} (hs:K'.sheets=K.sheets) (ha:l5 K' sp=l5 K sp) (p:Int):a1d K' sp p=a1d K sp p:=by
 unfold a1d zAt;rw [hs,ha]
theorem a5e {K K':Ker} {g:Sc->Sc} (h:K'.spaces=K.spaces.map g) (sp:Nat):(K.spaces[sp]?=none/\a0C K' sp=sc0/\a0C K sp=sc0)\/∃ s,K.spaces[sp]?=some s/\a0C K sp=s/\a0C K' sp=g s:=by
 unfold a0C;rw [h,xm3]
 cases hk:K.spaces[sp]? with
 |none=>exact xd6 ⟨rfl,rfl,rfl⟩
 |some s=>exact xd3 ⟨s,rfl,rfl,rfl⟩
theorem a96 {K:Ker} (h:Right K) {f:Nat} (hf:f < K.frames.length) (hfree:(j7 K.frames f).dirty=true->∃ t,a2B K.slots=some t) :
  SameP K (v7 K f)/\j7 (v7 K f).frames f=fm0/\j8 (v7 K f).spaces 1 (f:Nat)=[]/\(∀ i,i≠f->j7 (v7 K f).frames i=j7 K.frames i)/\(∀ i,(a0T K.slots i).refs≠0->a0T (v7 K f).slots i=a0T K.slots i)/\(∀ sp p,m6 (j6 (v7 K f) sp) p=(m6 (j6 K sp) p).bind (y9 (f:Nat) ((a0W K f).map fun (t:Nat)=>(t:Int)))):=by
 have hff:=xe1 hf;have hfo:=h.fr f _ hff;have hent:∀ sp p,m6 (j6 (v7 K f) sp) p=(m6 (j6 K sp) p).bind (y9 (f:Nat) ((a0W K f).map fun (t:Nat)=>(t:Int))):=fun sp p=>by
  unfold j6;rcases a5e (K':=v7 K f) (K:=K) (g:=a0y (f:Nat) ((a0W K f).map fun (t:Nat)=>(t:Int))) rfl sp with ⟨-,h1,h2⟩|⟨s,hs,h1,h2⟩
  ·rw [h1,h2];rfl
  ·rw [h1,h2];exact b0i (a1h.1 (h.spaces s (xd0 hs))).rises p
 have harea:∀ sp,l5 (v7 K f) sp=l5 K sp:=fun sp=>by
  unfold l5;rcases a5e (K':=v7 K f) (K:=K) (g:=a0y (f:Nat) ((a0W K f).map fun (t:Nat)=>(t:Int))) rfl sp with ⟨-,h1,h2⟩|⟨s,hs,h1,h2⟩ <;> rw [h1,h2] <;> rfl
 have hlive:∀ sp,(a0C (v7 K f) sp).live=(a0C K sp).live:=fun sp=>by
  rcases a5e (K':=v7 K f) (K:=K) (g:=a0y (f:Nat) ((a0W K f).map fun (t:Nat)=>(t:Int))) rfl sp with ⟨-,h1,h2⟩|⟨s,hs,h1,h2⟩ <;> rw [h1,h2] <;> rfl
 have hfr:∀ i,j7 (v7 K f).frames i=if f=i then fm0 else j7 K.frames i:=fun i=>by
  show j7 (K.frames.set f fm0) i=_;rw [a2v];by_cases e:f=i
  ·subst e;rw [xf0 ⟨rfl,hf⟩,xf0 rfl]
  ·rw [xf1 (fun hh=>e hh.1),xf1 e]
 have hT:∀ t,a0W K f=some t->(j7 K.frames f).dirty=true/\(a0T K.slots t).refs=0/\t < K.slots.length/\j8 K.spaces 2 (t:Nat)=[]/\(v7 K f).slots=K.slots.set t ⟨(j7 K.frames f).data,(j7 K.frames f).refs⟩:=fun t ht=>by
  have ht0:=ht;unfold a0W at ht
  cases hd:(j7 K.frames f).dirty with
  |false=>rw [hd] at ht;cases ht
  |true=>
   obtain ⟨u,hu⟩:=hfree hd;rw [hd,hu] at ht;obtain rfl:u=t:=by simpa using ht
   obtain ⟨s0,hs0,hs1⟩:=a4M hu;refine ⟨rfl,by rw [a1o hs0];exact hs1,e7 hs0,((h.sl u s0 hs0).free hs1).1,?_⟩;unfold v7;rw [ht0]
 have hT0:a0W K f=none->(j7 K.frames f).dirty=false/\(v7 K f).slots=K.slots:=fun ht=>by
  have ht0:=ht;unfold a0W at ht
  cases hd:(j7 K.frames f).dirty with
  |false=>exact ⟨rfl,by unfold v7;rw [ht0]⟩
  |true=>rw [hd] at ht;cases ht
 have hsw:∀ i,(a0T K.slots i).refs≠0->a0T (v7 K f).slots i=a0T K.slots i:=fun i hi=>by
  cases ht:a0W K f with
  |none=>rw [(hT0 ht).2]
  |some t=>
   obtain ⟨-,h2,-,-,h5⟩:=hT t ht;rw [h5,a6w,xf1];rintro ⟨rfl,-⟩;exact hi h2
 refine ⟨⟨rfl,by show (K.frames.set f fm0).length=_;simp,?_,by show (K.spaces.map _).length=_;simp,harea,hlive,fun sp p=>?_⟩,by rw [hfr,xf0 rfl],a5X _,fun i hi=>by rw [hfr,xf1 (Ne.symm hi)],hsw,hent⟩
 ·cases ht:a0W K f with
  |none=>rw [(hT0 ht).2]
  |some t=>rw [(hT t ht).2.2.2.2];simp
 ·unfold a0b;rw [hent];have hfill:a1d (v7 K f) sp p=a1d K sp p:=a3J (K:=K) (K':=v7 K f) rfl (harea sp) p
  cases he:m6 (j6 K sp) p with
  |none=>exact hfill
  |some e=>
   obtain ⟨hem,hep⟩:=a0n he;rcases a5e (K':=K) (K:=K) (g:=id) (List.map_id _).symm sp with ⟨h0,-,h2⟩|⟨s,hs,h1,-⟩
   ·unfold j6 at hem;rw [h2] at hem
    cases hem
   ·have hes:e ∈ s.entries:=by unfold j6 at hem;rwa [h1] at hem
    have hnm:=a3g hs hes;show (match y9 (f:Nat) ((a0W K f).map fun (t:Nat)=>(t:Int)) e with
     |some e=>a0a (v7 K f) e
     |none=>a1d (v7 K f) sp p)=a0a K e
    unfold y9;by_cases hk:e.kind=1/\e.at_=(f:Nat)
    ·rw [xf0 hk];rw [hk.1,hk.2] at hnm;have hd:=hfo.data _ hnm;rw [b5o hs] at hd;have hdat:a0a K e=(j7 K.frames f).data:=by unfold a0a;rw [xf0 hk.1,hk.2];rfl
     rw [hdat]
     cases ht:a0W K f with
     |none=>
      rw [<- o7 hff] at hd;rcases hd with hd|hd
      ·rw [(hT0 ht).1] at hd;cases hd
      ·show a1d (v7 K f) sp p=_;rw [hfill];unfold a1d;have:(a0U s e).1.page=p:=hep;rw [hep] at hd;rw [show (a0U s e).1.page=p from hep] at hd;rw [<- hd];rfl
     |some t=>
      obtain ⟨-,-,h3,-,h5⟩:=hT t ht;show a0a (v7 K f) ⟨e.page,2,(t:Nat)⟩=_;unfold a0a;rw [xf1 (by show ¬((2:Int)=1);omega),h5,show ((t:Nat):Int).toNat=t from rfl,a6w,xf0 ⟨rfl,h3⟩]
    ·rw [xf1 hk];show a0a (v7 K f) e=a0a K e;unfold a0a;by_cases hk1:e.kind=1
     ·rw [xf0 hk1,xf0 hk1,hfr,xf1];rintro rfl;rcases (h.ent hs hes).2 with ⟨-,g,hg,-⟩|⟨h2,-⟩
      ·exact hk ⟨hk1,by omega⟩
      ·omega
     ·rw [xf1 hk1,xf1 hk1];rcases (h.ent hs hes).2 with ⟨h1,-⟩|⟨h2,g,hg,hgl⟩
      ·exact absurd h1 hk1
      ·rw [hsw];rw [hg];have hgo:=h.sl g _ (xe1 hgl);rw [h2,hg] at hnm;rw [show ((g:Nat):Int).toNat=g from rfl,a1o (xe1 hgl),hgo.refs];intro e0;have:j8 K.spaces 2 (g:Nat)=[]:=xf4 (by omega);rw [this] at hnm
       cases hnm
structure b67 (K:Ker) (held:List Nat) (r:Ker×Nat):Prop where
 right:Right r.1
 same:SameP K r.1
 lt:r.2 < K.frames.length
 zero:j7 r.1.frames r.2=fm0
 nobody:j8 r.1.spaces 1 (r.2:Nat)=[]
 kept:∀ i ∈ held,(j7 K.frames i).refs≠0->r.2≠i/\j7 r.1.frames i=j7 K.frames i
 slots:∀ i,(a0T K.slots i).refs≠0->a0T r.1.slots i=a0T K.slots i
 some_:∀ sp p e,m6 (j6 K sp) p=some e->(e.kind≠1\/∃ i ∈ held,e.at_=((i:Nat):Int)/\(j7 K.frames i).refs≠0)->m6 (j6 r.1 sp) p=some e
 none_:∀ sp p,m6 (j6 K sp) p=none->m6 (j6 r.1 sp) p=none
theorem a6k {K:Ker} (h:Right K) {held:List Nat} (hl:held.length<=2):b67 K held (a0Z K held):=by
 unfold a0Z
 cases hf:a4V K.frames with
 |some i=>
  obtain ⟨f,hfi,h0⟩:=b0H hf;have hz:=(h.fr i f hfi).free h0;refine ⟨h,SameP.refl K,e7 hfi,by show j7 K.frames i=_;rw [o7 hfi];exact hz.2,hz.1,fun j _ hj=>⟨?_,rfl⟩,fun _ _=>rfl,fun _ _ _ h _=>h,fun _ _ h=>h⟩;rintro rfl;rw [o7 hfi] at hj;exact hj h0
 |none=>
  obtain ⟨c1,c2,c3,c4,c5,c6⟩:=a8R h hl hf;have hnz:∀ i,i < K.frames.length->(j7 K.frames i).refs≠0:=fun i hi=>by
   rw [o7 (xe1 hi)];exact a4L hf _ (xe2 hi)
  have hfl:(a0w K held).2.2 < (⟨K.sheets,(a0w K held).1,K.slots,K.spaces,((a0w K held).2.1:Nat)⟩:Ker).frames.length:=by show _ < (a0w K held).1.length;rw [c6];exact c2
  have hfree:=a71 c1 hfl (by show (j7 (a0w K held).1 _).refs≠0;rw [(c4 _).2.1];exact hnz _ c2);have hr:=a8G c1 hfl (fun _=>hfree);obtain ⟨s1,s2,s3,s4,s5,s6⟩:=a96 c1 hfl (fun _=>hfree);have hs0:SameP K ⟨K.sheets,(a0w K held).1,K.slots,K.spaces,((a0w K held).2.1:Nat)⟩:=by
   refine ⟨rfl,c6,rfl,rfl,fun _=>rfl,fun _=>rfl,fun sp p=>?_⟩;unfold a0b;show (match m6 (j6 K sp) p with
    |some e=>a0a ⟨K.sheets,(a0w K held).1,K.slots,K.spaces,((a0w K held).2.1:Nat)⟩ e
    |none=>a1d K sp p)=_
   cases m6 (j6 K sp) p with
   |none=>rfl
   |some e=>
    show a0a _ e=a0a K e;unfold a0a;rw [(c4 _).1]
  refine ⟨hr,hs0.trans s1,c2,s2,s3,fun i hi h0=>⟨?_,?_⟩,fun i hi=>s5 i hi,fun sp p e he hk=>?_,fun sp p he=>?_⟩
  ·rintro rfl;exact c3 hi
  ·show j7 (v7 _ _).frames i=_;rw [s4 i (fun e=>c3 (by rw [<- e];exact hi))];exact c5 i hi
  ·show m6 (j6 (v7 _ _) sp) p=_;rw [s6];show ((m6 (j6 K sp) p).bind _)=_;rw [he];show y9 _ _ e=_;unfold y9;rw [xf1];rintro ⟨k1,k2⟩;rcases hk with hk|⟨i,hi,hk,-⟩
   ·exact hk k1
   ·have:(a0w K held).2.2=i:=by omega
    exact c3 (by rw [this];exact hi)
  ·show m6 (j6 (v7 _ _) sp) p=_;rw [s6];show ((m6 (j6 K sp) p).bind _)=_;rw [he];rfl
theorem a4c {l:List En} (hr:Rises (m0 l)) {q:Int} {x:En}:m6 l q=some x ↔ x ∈ l/\x.page=q:=by
 constructor
 ·exact a0n
 ·rintro ⟨h,rfl⟩;exact a3K hr h
theorem b4W (a:Int) (l:List Int) (t:Int):lbd (a::l) t=if a < t then lbd l t + 1 else 0:=by
 unfold lbd;rw [List.takeWhile_cons];by_cases h:a < t
 ·rw [xf0 (by simpa using h),xf0 h,xb3]
 ·rw [xf1 (by simpa using h),xf1 h];rfl
theorem a7Q:∀ {l:List Int} (_:Rises l) (t:Int),(∀ p ∈ l.take (lbd l t),p < t)/\(∀ p ∈ l.drop (lbd l t),t<=p)
 |[],_,t=>by simp
 |a::l,h,t=>by
  have hp:=xd7.1 h;rw [b4W];by_cases c:a < t
  ·rw [xf0 c];obtain ⟨i1,i2⟩:=a7Q hp.2 t;refine ⟨fun p hp'=>?_,by simpa using i2⟩;rw [xh3] at hp';rcases xc4.1 hp' with rfl|hp'
   ·exact c
   ·exact i1 p hp'
  ·rw [xf1 c];refine ⟨by simp,fun p hp'=>?_⟩;rw [xk4] at hp';rcases xc4.1 hp' with rfl|hp'
   ·omega
   ·have:=hp.1 p hp';omega
theorem a76 (l:List En) (e:En):(b0Y l e).Perm (e::l):=by
 unfold b0Y;refine List.perm_middle.trans ?_;rw [xm4]
theorem b1f {l:List En} (h:Rises (m0 l)) {e:En} (hn:e.page ∉ m0 l):Rises (m0 (b0Y l e)):=by
 obtain ⟨h1,h2⟩:=a7Q h e.page;have h3:Rises ((m0 l).take (lbd (m0 l) e.page)):=h.sublist (List.take_sublist _ _);have h4:Rises ((m0 l).drop (lbd (m0 l) e.page)):=h.sublist (List.drop_sublist _ _);have e1:m0 (b0Y l e)=(m0 l).take (lbd (m0 l) e.page)++e.page::(m0 l).drop (lbd (m0 l) e.page):=by
  unfold b0Y m0;rw [xk1,xc2,xa4,List.map_drop]
 rw [e1];refine xe4.2 ⟨h3,xd7.2 ⟨fun p hp=>?_,h4⟩,fun a ha b hb=>?_⟩
 ·have:=h2 p hp;have hne:p≠e.page:=fun e0=>hn (by rw [<- e0];exact xm5 hp);omega
 ·have:=h1 a ha;rcases xc4.1 hb with rfl|hb
  ·exact this
  ·have:=h2 b hb;omega
theorem a8a {l:List En} (h:Rises (m0 l)) (e:En):∃ R,l.Perm ((m6 l e.page).toList++R)/\(a2r l e).Perm (e::R)/\Rises (m0 (a2r l e))/\(a2r l e).length<=l.length + 1:=by
 unfold a2r;by_cases hm:e.page ∈ m0 l
 ·rw [xf0 hm];have hi:=(a1m h e.page).2 hm;unfold m0 at hi;rw [xm3] at hi;obtain ⟨x,hx,hxp⟩:=xm6.1 hi;have he:m6 l e.page=some x:=(a4c h).2 ⟨xd0 hx,hxp⟩;refine ⟨l.eraseIdx (lbd (m0 l) e.page),?_,?_,?_,by simp⟩
  ·rw [he];exact a1p hx
  ·have:=a1p (l:=l.set (lbd (m0 l) e.page) e) (k:=lbd (m0 l) e.page) (b:=e) (by rw [xe0];simp;exact e7 hx)
   rwa [a2X] at this
  ·have:m0 (l.set (lbd (m0 l) e.page) e)=m0 l:=by
    have e1:m0 (l.set (lbd (m0 l) e.page) e)=(m0 l).set (lbd (m0 l) e.page) e.page:=by unfold m0;rw [xm7]
    rw [e1];refine xm8 fun j=>?_;rw [xe0];by_cases hj:lbd (m0 l) e.page=j
    ·rw [xf0 hj,hj.symm];have h9:=(a1m h e.page).2 hm;rw [xf0 (e7 h9),h9]
    ·rw [xf1 hj]
   rw [this];exact h
 ·rw [xf1 hm];refine ⟨l,?_,a76 l e,b1f h hm,by rw [(a76 l e).length_eq];simp⟩;rw [a1M.2 hm];exact List.Perm.refl _
theorem b3z {l:List En} (h:Rises (m0 l)) (e:En) (q:Int):m6 (a2r l e) q=if q=e.page then some e else m6 l q:=by
 obtain ⟨R,h1,h2,h3,-⟩:=a8a h e;by_cases hq:q=e.page
 ·rw [xf0 hq];exact (a4c h3).2 ⟨h2.mem_iff.2 xc5,hq.symm⟩
 ·rw [xf1 hq]
  cases hx:m6 l q with
  |some x=>
   obtain ⟨hx1,hx2⟩:=a0n hx;refine (a4c h3).2 ⟨h2.mem_iff.2 (xc6 _ ?_),hx2⟩;rcases xe3.1 (h1.mem_iff.1 hx1) with h4|h4
   ·exfalso;rw [Option.mem_toList] at h4;exact hq (hx2.symm.trans (a0n h4).2)
   ·exact h4
  |none=>
   cases hy:m6 (a2r l e) q with
   |none=>rfl
   |some y=>
    exfalso;obtain ⟨hy1,hy2⟩:=a0n hy;rcases xc4.1 (h2.mem_iff.1 hy1) with rfl|h4
    ·exact hq hy2.symm
    ·have:=(a4c h).2 ⟨h1.mem_iff.2 (xe6 _ h4),hy2⟩;rw [hx] at this
     cases this
def nmL (s:Sc) (k a:Int) (l:List En):List Nm:=(l.filter fun e=>decide (e.kind=k/\e.at_=a)).map (a0U s)
theorem a9t {s:Sc} {k a:Int} {l m:List En} (h:l.Perm m):(nmL s k a l).Perm (nmL s k a m):=(h.filter _).map _
theorem b1Y (s:Sc) (k a:Int) (l m:List En):nmL s k a (l++m)=nmL s k a l++nmL s k a m:=by unfold nmL;rw [xj8,xk1]
theorem a6o {s:Sc} {k a:Int} {e:En} (l:List En) (h:e.kind=k/\e.at_=a):nmL s k a (e::l)=a0U s e::nmL s k a l:=by unfold nmL;rw [xj9 (by simpa using h)];rfl
theorem a9K {s:Sc} {k a:Int} {e:En} (l:List En) (h:¬(e.kind=k/\e.at_=a)):nmL s k a (e::l)=nmL s k a l:=by unfold nmL;rw [xk2 (by simpa using h)]
theorem a4u {L:List Sc} {sp:Nat} {s s':Sc} (h:L[sp]?=some s) (k a:Int):(j8 (L.set sp s') k a).Perm (nm1 s' k a++j8 (L.eraseIdx sp) k a)/\(j8 L k a).Perm (nm1 s k a++j8 (L.eraseIdx sp) k a):=by
 constructor
 ·have:=a1p (l:=L.set sp s') (k:=sp) (b:=s') (by rw [xe0];simp;exact e7 h);rw [a2X] at this;exact this.flatMap_right _
 ·exact (a1p h).flatMap_right _
theorem FmOk.dec {sh:List Sh} {f:Fm} {n:Nm} {N:List Nm} (h:FmOk sh f (n::N)):FmOk sh (a4k f) N:=by
 have hr:=h.refs;rw [xb3] at hr;unfold a4k;by_cases h0:f.refs - 1=0
 ·rw [xf0 h0];obtain rfl:N=[]:=xf4 (by omega);exact FmOk.zero sh
 ·rw [xf1 h0];exact ⟨by show f.refs - 1=_;omega,fun e=>absurd (by rw [e] at hr;simp at hr;omega) h0,fun _=>h.len (by simp),fun a ha b hb=>h.same a (xc6 _ ha) b (xc6 _ hb),fun a ha=>h.data a (xc6 _ ha)⟩
theorem SwOk.dec {f:Sw} {n:Nm} {N:List Nm} (h:SwOk f (n::N)):SwOk (a4n f) N:=by
 have hr:=h.refs;rw [xb3] at hr;unfold a4n;by_cases h0:f.refs - 1=0
 ·rw [xf0 h0];obtain rfl:N=[]:=xf4 (by omega);exact SwOk.zero
 ·rw [xf1 h0];exact ⟨by show f.refs - 1=_;omega,fun e=>absurd (by rw [e] at hr;simp at hr;omega) h0,fun _=>h.len (by simp),fun a ha b hb=>h.same a (xc6 _ ha) b (xc6 _ hb)⟩
theorem b4m {sh:List Sh} {f:Fm} {n m:Nm} {N:List Nm} (h:FmOk sh f (n::m::N)):(a4k f).data=f.data:=by
 have hr:=h.refs;rw [xb3,xb3] at hr;unfold a4k;rw [xf1 (by omega)]
theorem b2O {f:Sw} {n m:Nm} {N:List Nm} (h:SwOk f (n::m::N)):(a4n f).data=f.data:=by
 have hr:=h.refs;rw [xb3,xb3] at hr;unfold a4n;rw [xf1 (by omega)]
theorem a5V (K:Ker) (o:Option En):(a1P K o).spaces=K.spaces/\(a1P K o).sheets=K.sheets/\(a1P K o).hand=K.hand/\(a1P K o).frames.length=K.frames.length/\(a1P K o).slots.length=K.slots.length:=by
 cases o with
 |none=>exact ⟨rfl,rfl,rfl,rfl,rfl⟩
 |some e=>
  show (a46 K e).spaces=_/\(a46 K e).sheets=_/\(a46 K e).hand=_/\(a46 K e).frames.length=_/\(a46 K e).slots.length=_;unfold a46
  split
  ·exact ⟨rfl,rfl,rfl,xa8,rfl⟩
  ·exact ⟨rfl,rfl,rfl,rfl,xa8⟩
structure InOk (K K':Ker) (sp:Nat) (page:Int) (f:Nat) (data:List UInt8) (dirty:Bool):Prop where
 right:Right K'
 sheets:K'.sheets=K.sheets
 nfr:K'.frames.length=K.frames.length
 nsl:K'.slots.length=K.slots.length
 nsp:K'.spaces.length=K.spaces.length
 ar:∀ i,l5 K' i=l5 K i
 live:∀ i,(a0C K' i).live=(a0C K i).live
 peek:∀ i p,¬(i=sp/\p=page)->a0b K' i p=a0b K i p
 here:a0b K' sp page=data
 ent:∀ i p,m6 (j6 K' i) p=if i=sp/\p=page then some ⟨page,1,(f:Nat)⟩ else m6 (j6 K i) p
 fm:j7 K'.frames f=⟨data,1,dirty,false⟩
 other:∀ i,i≠f->(∀ w0,m6 (j6 K sp) page=some w0->¬(w0.kind=1/\w0.at_=((i:Nat):Int)))->j7 K'.frames i=j7 K.frames i
theorem b7f {K:Ker} {sp:Nat} {s:Sc} {page:Int} {f:Nat} {data:List UInt8} {dirty:Bool} (h:Right K) (hs:K.spaces[sp]?=some s) (hlive:s.live=true) (ha:(n7 s.areas page).isSome=true) (hf:f < K.frames.length) (hN:j8 K.spaces 1 (f:Nat)=[]) (hd:data.length=16) (hfill:dirty=true\/some data=a0Q K.sheets (zAt K sp page) page):InOk K (inK K sp page f data dirty) sp page f data dirty:=by
 have hsc:=a1h.1 (h.spaces s (xd0 hs));have hse:=a0A hs;have hent:j6 K sp=s.entries:=by unfold j6;rw [hse]
 obtain ⟨e',he'⟩:∃ e':En,e'=⟨page,1,(f:Nat)⟩:=⟨_,rfl⟩;obtain ⟨s',hs'⟩:∃ s':Sc,s'=⟨s.live,s.areas,a2r s.entries e'⟩:=⟨_,rfl⟩;obtain ⟨was,hwas⟩:∃ o,o=m6 s.entries page:=⟨_,rfl⟩;obtain ⟨R,r1,r2,r3,r4⟩:=a8a hsc.rises e';have hpe:e'.page=page:=by rw [he']
 rw [hpe,<- hwas] at r1;have hM:∀ k a,(j8 K.spaces k a).Perm (nmL s k a was.toList++(nmL s k a R++j8 (K.spaces.eraseIdx sp) k a)):=fun k a=>by
  refine (a4u (s':=s') hs k a).2.trans ?_;rw [<- xg2,<- b1Y];exact List.Perm.append_right _ (a9t r1)
 have hM':∀ k a,(j8 (K.spaces.set sp s') k a).Perm (nmL s k a [e']++(nmL s k a R++j8 (K.spaces.eraseIdx sp) k a)):=fun k a=>by
  refine (a4u (s':=s') hs k a).1.trans ?_;rw [<- xg2,<- b1Y];refine List.Perm.append_right _ ?_;have:nm1 s' k a=nmL s k a (a2r s.entries e'):=by rw [hs'];rfl
  rw [this];exact a9t r2
 obtain ⟨M,hMd⟩:∃ M:Int->Int->List Nm,M=fun k a=>nmL s k a R++j8 (K.spaces.eraseIdx sp) k a:=⟨_,rfl⟩;have hMe:∀ k a,nmL s k a R++j8 (K.spaces.eraseIdx sp) k a=M k a:=fun k a=>by rw [hMd]
 simp only [hMe] at hM hM';have hMf:M 1 (f:Nat)=[]:=by
  have:=(hM 1 (f:Nat)).symm.trans (by rw [hN]);exact (xl7.1 this.eq_nil).2
 have hwf:∀ w0,was=some w0->w0.kind=1->w0.at_≠(f:Nat):=fun w0 hw k1 k2=>by
  have:=(hM 1 (f:Nat)).symm.trans (by rw [hN]);rw [hw,xm9,a6o [] ⟨k1,k2⟩] at this
  cases this.eq_nil
 have hwin:∀ w0,was=some w0->(w0.kind=1/\∃ b:Nat,w0.at_=(b:Nat)/\b < K.frames.length)\/(w0.kind=2/\∃ b:Nat,w0.at_=(b:Nat)/\b < K.slots.length):=fun w0 hw=>by
  rw [hwas] at hw;exact (h.ent hs (a0n hw).1).2
 -- what comes
 have hK':inK K sp page f data dirty=⟨K.sheets,(a1P (a0h K f ⟨data,1,dirty,false⟩) was).frames,(a1P (a0h K f ⟨data,1,dirty,false⟩) was).slots,K.spaces.set sp s',K.hand⟩:=by
  unfold inK a8J b3P;rw [hent,<- hwas,hs',he'];obtain ⟨l1,l2,l3,-⟩:=a5V (a0h K f ⟨data,1,dirty,false⟩) was;have hl:a0C (a1P (a0h K f ⟨data,1,dirty,false⟩) was) sp=s:=by
   unfold a0C;rw [l1];show (K.spaces[sp]?).getD sc0=s;rw [hs];rfl
  rw [hl,l1,l2,l3];rfl
 rw [hK'];have hlens:=a5V (a0h K f ⟨data,1,dirty,false⟩) was;have hlf:(a1P (a0h K f ⟨data,1,dirty,false⟩) was).frames.length=K.frames.length:=by rw [hlens.2.2.2.1];show (K.frames.set f _).length=_;simp
 have hls:(a1P (a0h K f ⟨data,1,dirty,false⟩) was).slots.length=K.slots.length:=by rw [hlens.2.2.2.2];rfl
 have hscs:∀ i,a0C ⟨K.sheets,(a1P (a0h K f ⟨data,1,dirty,false⟩) was).frames,(a1P (a0h K f ⟨data,1,dirty,false⟩) was).slots,K.spaces.set sp s',K.hand⟩ i=if i=sp then s' else a0C K i:=fun i=>by
  unfold a0C;show ((K.spaces.set sp s')[i]?).getD sc0=_;rw [xe0];by_cases e:sp=i
  ·subst e;rw [xf0 rfl,xf0 (e7 hs),xf0 rfl];rfl
  ·rw [xf1 e,xf1 (fun hh=>e hh.symm)]
 have har:∀ i,l5 ⟨K.sheets,(a1P (a0h K f ⟨data,1,dirty,false⟩) was).frames,(a1P (a0h K f ⟨data,1,dirty,false⟩) was).slots,K.spaces.set sp s',K.hand⟩ i=l5 K i:=fun i=>by
  unfold l5;rw [hscs];by_cases e:i=sp
  ·subst e;rw [xf0 rfl,hse,hs']
  ·rw [xf1 e]
 have hlv:∀ i,(a0C ⟨K.sheets,(a1P (a0h K f ⟨data,1,dirty,false⟩) was).frames,(a1P (a0h K f ⟨data,1,dirty,false⟩) was).slots,K.spaces.set sp s',K.hand⟩ i).live=(a0C K i).live:=fun i=>by
  rw [hscs];by_cases e:i=sp
  ·subst e;rw [xf0 rfl,hse,hs']
  ·rw [xf1 e]
 have hen:∀ i p,m6 (j6 ⟨K.sheets,(a1P (a0h K f ⟨data,1,dirty,false⟩) was).frames,(a1P (a0h K f ⟨data,1,dirty,false⟩) was).slots,K.spaces.set sp s',K.hand⟩ i) p=if i=sp/\p=page then some ⟨page,1,(f:Nat)⟩ else m6 (j6 K i) p:=fun i p=>by
  unfold j6;rw [hscs];by_cases e:i=sp
  ·subst e;rw [xf0 rfl,hse,hs'];show m6 (a2r s.entries e') p=_;rw [b3z hsc.rises,hpe];by_cases e2:p=page
   ·rw [xf0 e2,xf0 ⟨rfl,e2⟩,he']
   ·rw [xf1 e2,xf1 (fun hh=>e2 hh.2)]
  ·rw [xf1 e,xf1 (fun hh=>e hh.1)]
 -- frames and slots
 have hfr:∀ i,j7 (a1P (a0h K f ⟨data,1,dirty,false⟩) was).frames i=if i=f then ⟨data,1,dirty,false⟩ else if (∃ w0,was=some w0/\w0.kind=1/\w0.at_=(i:Nat)) then a4k (j7 K.frames i) else j7 K.frames i:=fun i=>by
  have hset:∀ j,j7 (K.frames.set f ⟨data,1,dirty,false⟩) j=if j=f then ⟨data,1,dirty,false⟩ else j7 K.frames j:=fun j=>by
   rw [a2v];by_cases e:f=j
   ·subst e;rw [xf0 ⟨rfl,hf⟩,xf0 rfl]
   ·rw [xf1 (fun hh=>e hh.1),xf1 (fun hh=>e hh.symm)]
  cases hw:was with
  |none=>
   show j7 (K.frames.set f _) i=_;rw [hset];by_cases e:i=f
   ·rw [xf0 e,xf0 e]
   ·rw [xf1 e,xf1 e,xf1];rintro ⟨w0,h1,-⟩
    cases h1
  |some w0=>
   have h1:=hwf w0 hw;show j7 (a46 (a0h K f _) w0).frames i=_;unfold a46;rcases hwin w0 hw with ⟨k,b,hb,hbl⟩|⟨k,b,hb,hbl⟩
   ·rw [xf0 k];show j7 ((K.frames.set f ⟨data,1,dirty,false⟩).set w0.at_.toNat (a4k (j7 (K.frames.set f ⟨data,1,dirty,false⟩) w0.at_.toNat))) i=_;rw [hb,show ((b:Nat):Int).toNat=b from rfl,a2v,hset,hset];have hbf:¬ b=f:=fun e=>h1 k (by rw [hb,e]);rw [xf1 hbf];by_cases e:b=i
    ·subst e;rw [xf0 ⟨rfl,by simpa using hbl⟩,xf1 hbf,xf0 ⟨w0,rfl,k,hb⟩]
    ·rw [xf1 (fun hh=>e hh.1)];by_cases e2:i=f
     ·rw [xf0 e2,xf0 e2]
     ·rw [xf1 e2,xf1 e2,xf1];rintro ⟨w1,h2,-,h3⟩
      cases h2
      rw [hb] at h3;exact e (by omega)
   ·rw [xf1 (by omega)];show j7 (K.frames.set f _) i=_;rw [hset];by_cases e:i=f
    ·rw [xf0 e,xf0 e]
    ·rw [xf1 e,xf1 e,xf1];rintro ⟨w1,h2,h3,-⟩
     cases h2
     omega
 have hsl:∀ i,a0T (a1P (a0h K f ⟨data,1,dirty,false⟩) was).slots i=if (∃ w0,was=some w0/\w0.kind=2/\w0.at_=(i:Nat)) then a4n (a0T K.slots i) else a0T K.slots i:=fun i=>by
  cases hw:was with
  |none=>
   show a0T K.slots i=_;rw [xf1];rintro ⟨w0,h1,-⟩
   cases h1
  |some w0=>
   show a0T (a46 (a0h K f _) w0).slots i=_;unfold a46;rcases hwin w0 hw with ⟨k,b,hb,hbl⟩|⟨k,b,hb,hbl⟩
   ·rw [xf0 k];show a0T K.slots i=_;rw [xf1];rintro ⟨w1,h2,h3,-⟩
    cases h2
    omega
   ·rw [xf1 (by omega)];show a0T (K.slots.set w0.at_.toNat (a4n (a0T K.slots w0.at_.toNat))) i=_;rw [hb,show ((b:Nat):Int).toNat=b from rfl,a6w];by_cases e:b=i
    ·subst e;rw [xf0 ⟨rfl,hbl⟩,xf0 ⟨w0,rfl,k,hb⟩]
    ·rw [xf1 (fun hh=>e hh.1),xf1];rintro ⟨w1,h2,-,h3⟩
     cases h2
     rw [hb] at h3;exact e (by omega)
 -- who names what
 have hN1:∀ i:Nat,(∃ w0,was=some w0/\w0.kind=1/\w0.at_=(i:Nat))->∃ n,(j8 K.spaces 1 (i:Nat)).Perm (n::M 1 (i:Nat)):=fun i ⟨w0,hw,h1,h2⟩=>by
  refine ⟨a0U s w0,(hM 1 (i:Nat)).trans ?_⟩;rw [hw,xm9,a6o [] ⟨h1,h2⟩];exact List.Perm.refl _
 have hN1':∀ (k:Int) (i:Nat),¬(∃ w0,was=some w0/\w0.kind=k/\w0.at_=(i:Nat))->(j8 K.spaces k (i:Nat)).Perm (M k (i:Nat)):=fun k i hno=>by
  refine (hM k (i:Nat)).trans ?_
  cases hw:was with
  |none=>exact List.Perm.refl _
  |some w0=>
   rw [xm9,a9K [] (fun hh=>hno ⟨w0,hw,hh.1,hh.2⟩)];exact List.Perm.refl _
 have hN2:∀ i:Nat,(∃ w0,was=some w0/\w0.kind=2/\w0.at_=(i:Nat))->∃ n,(j8 K.spaces 2 (i:Nat)).Perm (n::M 2 (i:Nat)):=fun i ⟨w0,hw,h1,h2⟩=>by
  refine ⟨a0U s w0,(hM 2 (i:Nat)).trans ?_⟩;rw [hw,xm9,a6o [] ⟨h1,h2⟩];exact List.Perm.refl _
 have hNn:∀ (k:Int) (i:Nat),¬(k=1/\i=f)->(j8 (K.spaces.set sp s') k (i:Nat)).Perm (M k (i:Nat)):=fun k i hno=>by
  refine (hM' k (i:Nat)).trans ?_;rw [he',a9K []]
  ·exact List.Perm.refl _
  ·rintro ⟨h1,h2⟩;exact hno ⟨h1.symm,by have:((f:Nat):Int)=(i:Nat):=h2;omega⟩
 have hNf:(j8 (K.spaces.set sp s') 1 (f:Nat)).Perm [a0U s e']:=by
  refine (hM' 1 (f:Nat)).trans ?_;rw [hMf,a6o [] (by rw [he'];exact ⟨rfl,rfl⟩)];exact List.Perm.refl _
 -- an entry that stays: its data
 have hdata:∀ (x:En),(x.kind=1\/x.kind=2)->(∃ b:Nat,x.at_=(b:Nat)/\(x.kind=1->b < K.frames.length)/\(x.kind=2->b < K.slots.length))->M x.kind x.at_≠[]->a0a ⟨K.sheets,(a1P (a0h K f ⟨data,1,dirty,false⟩) was).frames,(a1P (a0h K f ⟨data,1,dirty,false⟩) was).slots,K.spaces.set sp s',K.hand⟩ x=a0a K x:=fun x hk ⟨b,hb,hb1,hb2⟩ hne=>by
  unfold a0a;rcases hk with hk|hk
  ·rw [xf0 hk,xf0 hk];dsimp only;rw [hb,show ((b:Nat):Int).toNat=b from rfl,hfr];rw [hk,hb] at hne;by_cases e:b=f
   ·subst e;exact absurd hMf hne
   ·rw [xf1 e];by_cases hw:∃ w0,was=some w0/\w0.kind=1/\w0.at_=(b:Nat)
    ·rw [xf0 hw];obtain ⟨n,hn⟩:=hN1 b hw;have hbo:=(h.fr b _ (xe1 (hb1 hk))).perm hn;rw [o7 (xe1 (hb1 hk))]
     cases hMb:M 1 (b:Nat) with
     |nil=>exact absurd hMb hne
     |cons m N=>
      rw [hMb] at hbo;exact b4m hbo
    ·rw [xf1 hw]
  ·rw [xf1 (by omega),xf1 (by omega)];dsimp only;rw [hb,show ((b:Nat):Int).toNat=b from rfl,hsl];rw [hk,hb] at hne;by_cases hw:∃ w0,was=some w0/\w0.kind=2/\w0.at_=(b:Nat)
   ·rw [xf0 hw];obtain ⟨n,hn⟩:=hN2 b hw;have hbo:=(h.sl b _ (xe1 (hb2 hk))).perm hn;rw [a1o (xe1 (hb2 hk))]
    cases hMb:M 2 (b:Nat) with
    |nil=>exact absurd hMb hne
    |cons m N=>
     rw [hMb] at hbo;exact b2O hbo
   ·rw [xf1 hw]
 have hfmf:j7 (a1P (a0h K f ⟨data,1,dirty,false⟩) was).frames f=⟨data,1,dirty,false⟩:=by rw [hfr,xf0 rfl]
 have hcnt:=h.cnt;have hhand:=h.hand;refine ⟨⟨?_,h.rise,?_,fun x hx=>?_,?_,fun i g hg=>?_,fun i g hg=>?_⟩,rfl,hlf,hls,by simp,har,hlv,fun i p hno=>?_,?_,hen,hfmf,fun i hi hw=>?_⟩
 ·dsimp only;rw [hlf,hls,xa8];exact hcnt
 ·dsimp only;rw [hlf];exact hhand
 ·dsimp only at hx |-;rw [hlf,hls];rcases xn0 hx with hx|rfl
  ·exact h.spaces x hx
  ·rw [a1h,hs'];refine ⟨fun hl=>(by rw [hlive] at hl;cases hl),hsc.ar,hsc.pages,fun e he=>?_,r3⟩;rcases xc4.1 (r2.mem_iff.1 he) with rfl|he
   ·rw [he'];exact ⟨ha,xd6 ⟨rfl,Int.natCast_nonneg f,by show ((f:Nat):Int) < _;omega⟩⟩
   ·exact hsc.ents e (r1.mem_iff.2 (xe6 _ he))
 ·dsimp only;rw [hls];have:t5 (K.spaces.set sp s')=t5 K.spaces:=by
   unfold t5;rw [xm7,hs']
   congr 1
   refine xm8 fun j=>?_;rw [xe0];by_cases e:sp=j
   ·subst e;rw [xf0 rfl,xh1,xf0 (e7 hs),xm3,hs];rfl
   ·rw [xf1 e]
  rw [this];exact h.room
 ·dsimp only at hg |-;have hil:i < K.frames.length:=by have:=e7 hg;omega
  have hgi:=xe1 hil;have hge:=hfr i;rw [o7 hg,o7 hgi] at hge;by_cases e:i=f
  ·subst e;rw [xf0 rfl] at hge;refine FmOk.perm (N:=[a0U s e']) ?_ hNf.symm;rw [hge];refine ⟨rfl,(fun hh=>by cases hh),fun _=>hd,fun n hn m hm=>?_,fun n hn=>?_⟩
   ·rw [xn1] at hn hm;subst hn;subst hm;exact ⟨rfl,rfl⟩
   ·rw [xn1] at hn;subst hn;rcases hfill with hh|hh
    ·exact xd6 hh
    ·right;rw [b5o hs,hpe];rw [show (a0U s e').1.page=page from hpe];exact hh
  ·rw [xf1 e] at hge;have hpm:=hNn 1 i (fun hh=>e hh.2);by_cases hw:∃ w0,was=some w0/\w0.kind=1/\w0.at_=(i:Nat)
   ·rw [xf0 hw] at hge;obtain ⟨n,hn⟩:=hN1 i hw;rw [hge];exact ((h.fr i _ hgi).perm hn).dec.perm hpm.symm
   ·rw [xf1 hw] at hge;rw [hge];exact (h.fr i _ hgi).perm ((hN1' 1 i hw).trans hpm.symm)
 ·dsimp only at hg |-;have hil:i < K.slots.length:=by have:=e7 hg;omega
  have hgi:=xe1 hil;have hge:=hsl i;rw [a1o hg,a1o hgi] at hge;have hpm:=hNn 2 i (fun hh=>by omega);by_cases hw:∃ w0,was=some w0/\w0.kind=2/\w0.at_=(i:Nat)
  ·rw [xf0 hw] at hge;obtain ⟨n,hn⟩:=hN2 i hw;rw [hge];exact ((h.sl i _ hgi).perm hn).dec.perm hpm.symm
  ·rw [xf1 hw] at hge;rw [hge];exact (h.sl i _ hgi).perm ((hN1' 2 i hw).trans hpm.symm)
 ·unfold a0b;rw [hen,xf1 hno]
  cases hx:m6 (j6 K i) p with
  |none=>exact a3J (hs:=by rfl) (ha:=har i) p
  |some x=>
   show a0a _ x=a0a K x;obtain ⟨hx1,hx2⟩:=a0n hx
   cases hi:K.spaces[i]? with
   |none=>unfold j6 at hx1;rw [a5w hi] at hx1;cases hx1
   |some t=>
    unfold j6 at hx1;rw [a0A hi] at hx1;have hin:=(h.ent hi hx1).2;have hk:x.kind=1\/x.kind=2:=by rcases hin with ⟨a,-⟩|⟨a,-⟩ <;> omega
    refine hdata x hk ?_ ?_
    ·rcases hin with ⟨a,b,c,d⟩|⟨a,b,c,d⟩
     ·exact ⟨b,c,fun _=>d,fun hh=>by omega⟩
     ·exact ⟨b,c,fun hh=>by omega,fun _=>d⟩
    ·rw [<- hMe];intro hnil;obtain ⟨h1,h2⟩:=xl7.1 hnil;by_cases e:i=sp
     ·subst e;rw [hs] at hi
      cases hi
      have hxR:x ∈ R:=by
       rcases xe3.1 (r1.mem_iff.1 hx1) with h4|h4
       ·exfalso;rw [Option.mem_toList,hwas] at h4;exact hno ⟨rfl,hx2.symm.trans (a0n h4).2⟩
       ·exact h4
      have:a0U s x ∈ nmL s x.kind x.at_ R:=xh0.2 ⟨x,xi6.2 ⟨hxR,by simp⟩,rfl⟩;rw [h1] at this
      cases this
     ·have hte:t ∈ K.spaces.eraseIdx sp:=List.mem_eraseIdx_iff_getElem?.2 ⟨i,e,hi⟩;have:a0U t x ∈ j8 (K.spaces.eraseIdx sp) x.kind x.at_:=by
       rw [a0G,xg9];exact ⟨t,hte,xh0.2 ⟨x,xi6.2 ⟨hx1,by simp⟩,rfl⟩⟩
      rw [h2] at this
      cases this
 ·unfold a0b;rw [hen,xf0 ⟨rfl,rfl⟩];show a0a _ (⟨page,1,(f:Nat)⟩:En)=data;unfold a0a;rw [xf0 rfl];show (j7 (a1P (a0h K f ⟨data,1,dirty,false⟩) was).frames f).data=data;rw [hfmf]
 ·show j7 (a1P (a0h K f ⟨data,1,dirty,false⟩) was).frames i=_;rw [hfr,xf1 hi,xf1];rintro ⟨w0,h1,h2,h3⟩;exact hw w0 (by rw [hent,<- hwas];exact h1) ⟨h2,h3⟩
end Go.Proofs.YtejnpppejalhfabGreat
