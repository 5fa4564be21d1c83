/- Texts that the proof stands on, one behind the other: Ke12, PlRun3, PlRun4, PlRun5, PlRun6, PlRun7, PlRun8, PlRun9, Ke38, Sc25, Sc26, Ke13, Ke14. -/
import Derived.Laws.CopyRow
import Derived.Laws.Slices
import Derived.Lib.AppendZerosOnto
import Derived.Lib.Overlaps
import Derived.Laws.Externs
import Derived.Test.YtejnpppejalhfacGreatPKernelMaps9
set_option linter.unusedVariables false
set_option linter.unusedSimpArgs false
namespace Go.Proofs.YtejnpppejalhfacGreat
set_option maxRecDepth 100000
set_option maxHeartbeats 8000000
open Go.RowKit Go.Sort
theorem a9v {l:List Sh} {nf ns:Int} {L:List Sc} (h:L.all (r6 l nf ns)=true) {k a:Int} {n:Nm} (hn:n ∈ j8 L k a):∃ x,a0L l n.2.z n.1.page=some x:=by
 unfold j8 at hn;obtain ⟨s,hs,h2⟩:=xh5.1 hn;obtain ⟨e,he,rfl⟩:=xh6.1 h2;have hsc:=a2x.1 (xc6.1 h s hs);obtain ⟨b,hb⟩:=xh7.1 (hsc.ents e (xh8.1 he).1).1;have hm:=xh9 hb;have hh:=xi0 hb;unfold y8 Ar.fin at hh;rw [xb2] at hh;have hp:=hsc.pages;unfold a1q at hp;have h3:=xc6.1 (xc6.1 hp b hm) (e.page - b.pg).toNat (by rw [xi1];omega);rw [show b.pg + (((e.page - b.pg).toNat:Nat):Int)=e.page by omega] at h3;obtain ⟨d,hd⟩:=xh7.1 h3;exact ⟨d,by unfold a1i;rw [hb];exact hd⟩
theorem a69 (N:List Nm):∃ p q a,a0q N=((N.length:Int),p,q,a)/\(∀ n r,N=n::r->q=a0n N/\(a0n N=true->p=n.1.page/\a.z=n.2.z)):=by
 rcases h:a0q N with ⟨c,p,q,a⟩
 have hl:=a9g N;rw [h] at hl;dsimp only at hl;subst hl;refine ⟨p,q,a,rfl,fun n r e=>?_⟩;subst e;have:=a7B (n:=n) (r:=r);rw [h] at this;exact this
theorem a93 {K:Ker} (h:∀ (j:Nat) f,K.frames[j]?=some f->a0Y K.sheets f (j8 K.spaces 1 (j:Nat))=true):a0t K=true:=by
 unfold a0t;rw [xc6];intro i _
 cases hf:K.frames[i]? with
 |none=>rfl
 |some f=>exact h i f hf
theorem a1B {K:Ker} {j:Nat} {f:Fm} (hf:K.frames[j]?=some f) (h:a0Y K.sheets f (j8 K.spaces 1 (j:Nat))=false):a0t K=false:=by
 unfold a0t;rw [xi2];exact ⟨j,xi1.2 (f7 hf),by rw [hf];simpa using h⟩
theorem b1n {K:Ker} (h:∀ (j:Nat) f,K.slots[j]?=some f->a1A f (j8 K.spaces 2 (j:Nat))=true):a1j K=true:=by
 unfold a1j;rw [xc6];intro i _
 cases hf:K.slots[i]? with
 |none=>rfl
 |some f=>exact h i f hf
theorem a2C {K:Ker} {j:Nat} {f:Sw} (hf:K.slots[j]?=some f) (h:a1A f (j8 K.spaces 2 (j:Nat))=false):a1j K=false:=by
 unfold a1j;rw [xi2];exact ⟨j,xi1.2 (f7 hf),by rw [hf];simpa using h⟩
theorem a8T {w:World} {k:KV} (hK:KerV w k):Fn Tryz.prog 81 [.agg (kvC k).toArray] w (RBf (.int .i64 (a09 k.K)) w):=by
 have b1:=hK.fr.bound;have b2:=hK.sl.bound;have b3:=hK.sp.bound;have b4:=hK.sh.sl.bound;have hsf:=fun w1 (h:KerV w1 k) (p:Sp) (hp:p ∈ k.sp)=>a7J h (h.spv p hp);obtain ⟨sh,fr,sl,sp,hand,vsh,vfr,vsl,vsp⟩:=k;have hK0:=hK;obtain ⟨k1,k2,k3,k4,k5⟩:=hK;dsimp only at b1 b2 b3 b4 k1 k2 k3 k4 k5 hsf;obtain ⟨p1,c1,rfl⟩:=k1.sl.len;obtain ⟨p2,c2,rfl⟩:=k2.len;obtain ⟨p3,c3,rfl⟩:=k3.len;obtain ⟨p4,c4,rfl⟩:=k4.len;unfold kvC a09 KV.K;unfold kvC at hsf;dsimp only at hsf |-;by_cases hcnt:a1s ⟨shs sh,fr,sl,sp.map (·.s),hand⟩=true;rotate_left
 ·rw [xe7 hcnt];unfold a1s at hcnt;rw [xb2] at hcnt;dsimp only at hcnt;rw [xi3,a1u] at hcnt;refine yEn Tryz.func81 Tryz.ntmps81 (by kernel_rfl) (by kernel_rfl) rfl rfl ?_;have hS:=St.start w
  repeat' (first|(with_reducible apply d5 c9);rfl;rfl;rfl|(with_reducible apply d6);rfl;(apply Ld.sl c9;rfl;exact hS.blkC 0 rfl rfl);rfl|refine yDn (by with_reducible constructor) ?_|(with_reducible apply l8);(iterate 4 rfl);assumption|(with_reducible apply a0a);(iterate 4 rfl);(first|rfl|assumption);rfl|(with_reducible apply j9);rfl;(first|rfl|assumption);rfl;rfl|(with_reducible apply i4);rfl;assumption;rfl;rfl|(with_reducible apply i6);rfl;rfl|(with_reducible apply j6 hS);rfl;rfl;rfl;clear hS;intro g w' hS|(with_reducible apply s7);rfl;rfl;rfl;all_goals (intro hb hp;try (exfalso;omega))|(with_reducible apply a1v);rfl;rfl;rfl;all_goals (intro hb hp;try (exfalso;omega))|(with_reducible apply d8);rfl;all_goals (intro hb hp;try (exfalso;omega))|(with_reducible apply f9 hS);rfl;rfl;rfl;refine ⟨_,n6 _ _ _ _,?_⟩;clear hS;intro w' hS)
  all_goals (apply a22)
  all_goals (repeat (first|exact ResL.nil|apply ResL.tmp;rfl))
  all_goals (exact ⟨rfl,hS.sub (xi4 _)⟩)
 rw [xe6 hcnt];unfold a1s at hcnt;rw [xb2] at hcnt;dsimp only at hcnt;rw [xi3,a1u] at hcnt;have hshe:=fun w1 (h:ShsV w1 sh (.slice p1 sh.length c1))=>a6o h;have hfe:a4U ⟨shs sh,fr,sl,sp.map (·.s),hand⟩=((a0u 0 (shs sh) && decide (0<=hand/\hand < (fr.length:Int))) && ((sp.map (·.s)).all (r6 (shs sh) fr.length sl.length) && (decide (o8 (sp.map (·.s))<=(sl.length:Int)) && (a0t ⟨shs sh,fr,sl,sp.map (·.s),hand⟩ && a1j ⟨shs sh,fr,sl,sp.map (·.s),hand⟩)))):=rfl
 cases hsh:a0u 0 (shs sh) with
 |false=>
  rw [hsh] at hshe hfe;rw [xi5,xi5] at hfe;rw [hfe];refine yEn Tryz.func81 Tryz.ntmps81 (by kernel_rfl) (by kernel_rfl) rfl rfl ?_;have hS:=St.start w
  repeat' (first|(with_reducible apply d5 c9);rfl;rfl;rfl|(with_reducible apply d6);rfl;(apply Ld.sl c9;rfl;exact hS.blkC 0 rfl rfl);rfl|refine yDn (by with_reducible constructor) ?_|(with_reducible apply l8);(iterate 4 rfl);assumption|(with_reducible apply a0a);(iterate 4 rfl);rfl;rfl|(with_reducible apply j9);rfl;rfl;rfl;rfl|(with_reducible apply i4);rfl;assumption;rfl;rfl|(with_reducible apply i6);rfl;rfl|(with_reducible apply j6 hS);rfl;rfl;rfl;clear hS;intro g w' hS|(with_reducible apply s7);rfl;rfl;rfl;all_goals (intro hb hp;try (exfalso;omega))|(with_reducible apply a1v);rfl;rfl;rfl;all_goals (intro hb hp;try (exfalso;omega))|(with_reducible apply d8);rfl;all_goals (intro hb hp;try (exfalso;omega))|(with_reducible apply f9 hS);rfl;rfl;rfl;refine ⟨_,n6 _ _ _ _,?_⟩;clear hS;intro w' hS|(with_reducible apply f9 hS);rfl;rfl;rfl;refine ⟨_,hshe _ (k1.now hS),?_⟩;clear hS;intro w' hS)
  (refine l4 rfl ?_)
  exact ⟨rfl,hS.sub (xi4 _)⟩
 |true=>
  rw [hsh] at hshe hfe;rw [xi6] at hfe;by_cases hh:0<=hand/\hand<=(fr.length:Int) - 1;rotate_left
  ·rw [xi7 (fun h=>hh ⟨h.1,by omega⟩),xi5] at hfe;rw [hfe];refine yEn Tryz.func81 Tryz.ntmps81 (by kernel_rfl) (by kernel_rfl) rfl rfl ?_;have hS:=St.start w
   repeat' (first|(with_reducible apply d5 c9);rfl;rfl;rfl|(with_reducible apply d6);rfl;(first|apply Ld.sc c9;rfl;exact hS.blkC 0 rfl rfl|apply Ld.sl c9;rfl;exact hS.blkC 0 rfl rfl);rfl|(with_reducible apply a0w);rfl;rfl;omega;omega;rfl|refine yDn (by with_reducible constructor) ?_|((with_reducible apply l8);(iterate 4 rfl);first|rfl|assumption)|(with_reducible apply i4);rfl;(first|rfl|assumption);rfl;rfl|(with_reducible apply j6 hS);rfl;rfl;rfl;clear hS;intro g w' hS|(with_reducible apply s7);rfl;rfl;rfl;all_goals (intro hb hp;try (exfalso;omega))|(with_reducible apply a1v);rfl;rfl;rfl;all_goals (intro hb hp;try (exfalso;omega))|(with_reducible apply d8);rfl;all_goals (intro hb hp;try (exfalso;omega))|(with_reducible apply a0j);rfl;all_goals (intro hb hp;try (exfalso;omega))|(with_reducible apply f9 hS);rfl;rfl;rfl;refine ⟨_,n6 _ _ _ _,?_⟩;clear hS;intro w' hS|(with_reducible apply f9 hS);rfl;rfl;rfl;refine ⟨_,hshe _ (k1.now hS),?_⟩;clear hS;intro w' hS)
   (refine l4 rfl ?_)
   exact ⟨rfl,hS.sub (xi4 _)⟩
  rw [xi8 (⟨hh.1,by omega⟩:0<=hand/\hand < (fr.length:Int)),xi6] at hfe;refine yEn Tryz.func81 Tryz.ntmps81 (by kernel_rfl) (by kernel_rfl) rfl rfl ?_;have hS:=St.start w
  repeat' (first|(with_reducible apply d5 c9);rfl;rfl;rfl|(with_reducible apply d6);rfl;(first|apply Ld.sc c9;rfl;exact hS.blkC 0 rfl rfl|apply Ld.sl c9;rfl;exact hS.blkC 0 rfl rfl);rfl|(with_reducible apply a0w);rfl;rfl;omega;omega;rfl|refine yDn (by with_reducible constructor) ?_|((with_reducible apply l8);(iterate 4 rfl);first|rfl|assumption)|(with_reducible apply i4);rfl;(first|rfl|assumption);rfl;rfl|(with_reducible apply j6 hS);rfl;rfl;rfl;clear hS;intro g w' hS|(with_reducible apply s7);rfl;rfl;rfl;all_goals (intro hb hp;try (exfalso;omega))|(with_reducible apply a1v);rfl;rfl;rfl;all_goals (intro hb hp;try (exfalso;omega))|(with_reducible apply d8);rfl;all_goals (intro hb hp;try (exfalso;omega))|(with_reducible apply a0j);rfl;all_goals (intro hb hp;try (exfalso;omega))|(with_reducible apply f9 hS);rfl;rfl;rfl;refine ⟨_,n6 _ _ _ _,?_⟩;clear hS;intro w' hS|(with_reducible apply f9 hS);rfl;rfl;rfl;refine ⟨_,hshe _ (k1.now hS),?_⟩;clear hS;intro w' hS)
  refine a19 hS 3 [1] rfl sp.length (fun i=>((sp.map (·.s)).take i).all (r6 (shs sh) fr.length sl.length)=true) 0 rfl (xf9 _) rfl ?_;rintro i w1 hi hall hS';clear hS;have hS:=hS';clear hS';by_cases hlt:i < sp.length
  ·obtain ⟨x,hx⟩:=j4 (l:=sp) (i:=i) (by omega);have hxs:(sp.map (·.s))[i]?=some x.s:=f8 (f:=fun p:Sp=>p.s) hx;have hrow:=f8 (f:=spC) hx;obtain ⟨b,off,rfl,hro⟩:=k4.at_ (i:=i) hlt;have hfx:=fun w1 h=>hsf w1 h x (xc8 hx)
   cases hsp:r6 (shs sh) fr.length sl.length x.s with
   |false=>
    rw [hsp] at hfx
    repeat' (first|(with_reducible apply d5 c9);rfl;rfl;rfl|(with_reducible apply d6);rfl;(apply Ld.sl c9;rfl;exact hS.blkC 0 rfl rfl);rfl|refine yDn (by with_reducible constructor) ?_|(with_reducible apply d8);rfl;all_goals (intro hb hp;try (exfalso;omega)))
    (focus ((with_reducible apply d9 _ _ _ (by kernel_rfl) (by kernel_rfl) hS);(repeat' (first|(first|(with_reducible apply g8 c9);rfl;rfl|(with_reducible apply i7);rfl;(intro wd hd;replace hd:St _ _ wd _:=hd;(first|apply Ld.sl c9;rfl;exact hd.blkC 0 rfl rfl|apply Ld.st c9;rfl;(first|exact hd.blkR 0 rfl|exact hd.roR (by assumption) (by assumption));rfl));rfl|(with_reducible apply a0f c9);rfl;rfl;rfl;rfl;omega;rfl)|(with_reducible apply s5);rfl;rfl;rfl;refine ⟨_,fun wd hd=>hfx _ (hK0.now hd),?_⟩));all_goals ((with_reducible apply k8);intro w' hS';clear hS;have hS:=hS';clear hS')))
    repeat' (first|(with_reducible apply d5 c9);rfl;rfl;rfl|refine yDn (by with_reducible constructor) ?_|(with_reducible apply i6);rfl;rfl)
    (refine l4 rfl ?_)
    refine ⟨?_,hS.sub (xi4 _)⟩;have hno:(sp.map (·.s)).all (r6 (shs sh) fr.length sl.length)=false:=by
     rw [xi2];exact ⟨x.s,xc8 hxs,by rw [hsp];simp⟩
    rw [hfe,hno,xi5];rfl
   |true=>
    rw [hsp] at hfx
    repeat' (first|(with_reducible apply d5 c9);rfl;rfl;rfl|(with_reducible apply d6);rfl;(apply Ld.sl c9;rfl;exact hS.blkC 0 rfl rfl);rfl|refine yDn (by with_reducible constructor) ?_|(with_reducible apply d8);rfl;all_goals (intro hb hp;try (exfalso;omega)))
    (focus ((with_reducible apply d9 _ _ _ (by kernel_rfl) (by kernel_rfl) hS);(repeat' (first|(first|(with_reducible apply g8 c9);rfl;rfl|(with_reducible apply i7);rfl;(intro wd hd;replace hd:St _ _ wd _:=hd;(first|apply Ld.sl c9;rfl;exact hd.blkC 0 rfl rfl|apply Ld.st c9;rfl;(first|exact hd.blkR 0 rfl|exact hd.roR (by assumption) (by assumption));rfl));rfl|(with_reducible apply a0f c9);rfl;rfl;rfl;rfl;omega;rfl)|(with_reducible apply s5);rfl;rfl;rfl;refine ⟨_,fun wd hd=>hfx _ (hK0.now hd),?_⟩));all_goals ((with_reducible apply k8);intro w' hS';clear hS;have hS:=hS';clear hS')))
    repeat' (first|(with_reducible apply d5 c9);rfl;rfl;rfl|(with_reducible apply j7);rfl;rfl;omega;omega;rfl|refine yDn (by with_reducible constructor) ?_|(with_reducible apply i9);rfl;rfl)
    refine a0N (i + 1) (by exact Fr.sub_of rfl) (by omega) ?_ (by omega) hS;rw [o7 hxs,List.all_append,hall,xi9,hsp];rfl
  have hspa:(sp.map (·.s)).all (r6 (shs sh) fr.length sl.length)=true:=by
   rw [xa0 (by rw [xi3];omega)] at hall;exact hall
  clear hall;rw [hspa,xi6] at hfe;have hokp:∀ p ∈ sp,r6 (shs sh) fr.length sl.length p.s=true:=fun p hp=>xc6.1 hspa p.s (xh6.2 ⟨p,hp,rfl⟩);have hchk:∀ p ∈ sp,g6 p.s.areas=0:=fun p hp=>(a2x.1 (hokp p hp)).ar;have hroom:=fun w1 h=>b0g (w:=w1) (k:=⟨sh,fr,sl,sp,hand,.slice p1 sh.length c1,.slice p2 fr.length c2,.slice p3 sl.length c3,.slice p4 sp.length c4⟩) h hchk (by show sp.length<=4;omega);have hnm:=fun w1 h kd a=>b1d (w:=w1) (k:=⟨sh,fr,sl,sp,hand,.slice p1 sh.length c1,.slice p2 fr.length c2,.slice p3 sl.length c3,.slice p4 sp.length c4⟩) h hchk (by show sp.length<=4;omega) (fun p hp=>(a3j (hokp p hp)).1) kd a;unfold kvC at hroom hnm;dsimp only at hroom hnm;by_cases hrm:(sl.length:Int) < o8 (sp.map (·.s))
  ·rw [xi7 (by omega),xi5] at hfe;rw [hfe]
   repeat' (first|(with_reducible apply d5 c9);rfl;rfl;rfl|(with_reducible apply d6);rfl;(apply Ld.sl c9;rfl;exact hS.blkC 0 rfl rfl);rfl|refine yDn (by with_reducible constructor) ?_|(with_reducible apply d8);rfl;all_goals (intro hb hp;try (exfalso;omega)))
   (focus ((with_reducible apply d9 _ _ _ (by kernel_rfl) (by kernel_rfl) hS);(repeat' (first|(first|(with_reducible apply g8 c9);rfl;rfl|(with_reducible apply i7);rfl;(intro wd hd;replace hd:St _ _ wd _:=hd;(first|apply Ld.sl c9;rfl;exact hd.blkC 0 rfl rfl|apply Ld.st c9;rfl;exact hd.blkR 0 rfl;rfl));rfl)|(with_reducible apply s5);rfl;rfl;rfl;refine ⟨_,fun wd hd=>hroom _ (hK0.now hd),?_⟩));all_goals ((with_reducible apply k8);intro w' hS';clear hS;have hS:=hS';clear hS')))
   repeat' (first|(with_reducible apply d5 c9);rfl;rfl;rfl|refine yDn (by with_reducible constructor) ?_|(with_reducible apply d8);rfl;all_goals (intro hb hp;try (exfalso;omega)))
   (refine l4 rfl ?_)
   exact ⟨rfl,hS.sub (xi4 _)⟩
  rw [xi8 (by omega),xi6] at hfe
  repeat' (first|(with_reducible apply d5 c9);rfl;rfl;rfl|(with_reducible apply d6);rfl;(apply Ld.sl c9;rfl;exact hS.blkC 0 rfl rfl);rfl|refine yDn (by with_reducible constructor) ?_|(with_reducible apply d8);rfl;all_goals (intro hb hp;try (exfalso;omega)))
  (focus ((with_reducible apply d9 _ _ _ (by kernel_rfl) (by kernel_rfl) hS);(repeat' (first|(first|(with_reducible apply g8 c9);rfl;rfl|(with_reducible apply i7);rfl;(intro wd hd;replace hd:St _ _ wd _:=hd;(first|apply Ld.sl c9;rfl;exact hd.blkC 0 rfl rfl|apply Ld.st c9;rfl;exact hd.blkR 0 rfl;rfl));rfl)|(with_reducible apply s5);rfl;rfl;rfl;refine ⟨_,fun wd hd=>hroom _ (hK0.now hd),?_⟩));all_goals ((with_reducible apply k8);intro w' hS';clear hS;have hS:=hS';clear hS')))
  repeat' (first|(with_reducible apply d5 c9);rfl;rfl;rfl|refine yDn (by with_reducible constructor) ?_|(with_reducible apply d8);rfl;all_goals (intro hb hp;try (exfalso;omega)))
  refine a19 hS 4 [1] rfl fr.length (fun i=>∀ (j:Nat) f,j < i->fr[j]?=some f->a0Y (shs sh) f (j8 (sp.map (·.s)) 1 (j:Nat))=true) 0 rfl (xf9 _) (fun _ _ h=>absurd h (Nat.not_lt_zero _)) ?_;rintro i w2 hi hall hS';clear hS;have hS:=hS';clear hS';by_cases hlt:i < fr.length
  ·obtain ⟨f,hf⟩:=j4 (l:=fr) (i:=i) (by omega);have hrow:=f8 (f:=fmC) hf;obtain ⟨b,off,rfl,hro⟩:=k2.at_ (i:=i) hlt;unfold fmC at hrow;have hn1:=fun w1 h=>hnm w1 h 1 (i:Nat);obtain ⟨p,q,a,hN,hN2⟩:=a69 (j8 (sp.map (·.s)) 1 (i:Nat));unfold nmV at hn1;rw [hN] at hn1;have hfl:=fun x (hx:a0L (shs sh) a.z p=some x) w1 h=>b3H (w:=w1) (k:=⟨sh,fr,sl,sp,hand,.slice p1 sh.length c1,.slice (some ⟨b,off,none⟩) fr.length c2,.slice p3 sl.length c3,.slice p4 sp.length c4⟩) h (a:=a) (p:=p) (x:=x) hsh hx;unfold kvC at hfl;unfold arC at hn1 hfl;dsimp only at hn1 hfl;have hfn:=fun n (hn:n ∈ j8 (sp.map (·.s)) 1 (i:Nat))=>a9v hspa hn;obtain ⟨N,hNN⟩:∃ N,N=j8 (sp.map (·.s)) 1 (i:Nat):=⟨_,rfl⟩;rw [<- hNN] at hn1 hN2 hfn;obtain ⟨c,hc⟩:∃ c:Int,c=(N.length:Int):=⟨_,rfl⟩;rw [<- hc] at hn1;obtain ⟨dt,rf,dy,sn⟩:=f;dsimp only at hrow;have hfil:=hfl;have heq:=True.intro
   repeat' (first|(with_reducible apply d5 c9);rfl;rfl;rfl|(with_reducible apply d6);rfl;(first|apply Ld.sl c9;rfl;exact hS.blkC 0 rfl rfl|apply Ld.st c9;rfl;(first|exact hS.blkR 1 rfl|exact hS.roR (by assumption) (by assumption));rfl);rfl|(with_reducible apply m8 c9);rfl;rfl;rfl;rfl;omega;rfl|refine yDn (by with_reducible constructor) ?_|(with_reducible apply f5 hS c9);rfl;rfl;rfl;clear hS;intro g w' hS|(with_reducible apply d7 hS c9 (i:=0));(iterate 8 rfl);exact (rfl:_=[_,_,_,_]);clear hS;intro w' hS;simp only [List.set] at hS|(with_reducible apply d8);rfl;all_goals (intro hb hp;try (exfalso;omega))|(with_reducible apply f9 hS);rfl;rfl;rfl;refine ⟨_,hn1 _ (hK0.now hS),?_⟩;clear hS;intro w' hS)
   by_cases hr:rf=c;rotate_left
   ·have hdr:(!decide (rf=c))=true:=by rw [xi7 hr];rfl
    (focus ((with_reducible apply d9 _ _ _ (by kernel_rfl) (by kernel_rfl) hS);(repeat' ((first|(with_reducible apply g8 c9);rfl;rfl|(with_reducible apply i7);rfl;(intro wd hd;replace hd:St _ _ wd _:=hd;(apply Ld.sc c9;rfl;exact hd.blkC 1 rfl rfl));rfl|(first|(with_reducible apply a1I);(iterate 4 rfl);(first|rfl|assumption);rfl|(with_reducible apply a2c);(iterate 5 rfl)|(with_reducible apply q7);rfl;(first|rfl|assumption);rfl;rfl))));all_goals ((with_reducible apply k8);intro w' hS';clear hS;have hS:=hS';clear hS')))
    repeat' (first|(with_reducible apply d5 c9);rfl;rfl;rfl|refine yDn (by with_reducible constructor) ?_|(with_reducible apply i6);rfl;rfl)
    (refine l4 rfl ?_)
    refine ⟨?_,hS.sub (xi4 _)⟩;rw [hfe,a1B hf (by rw [<- hNN,xj0];exact fun h=>hr ((a11.1 h).refs.trans hc.symm)),xi5];rfl
   have hdr:(!decide (rf=c))=false:=by rw [xi8 hr];rfl
   cases N with
   |nil=>
    have hz:decide (c=0)=true:=xi8 hc;have hgt:decide (0 < c)=false:=xi7 (by rw [hc];simp);by_cases h0:(⟨dt,rf,dy,sn⟩:Fm)=fm0
    ·have heq:=b5m (⟨dt,rf,dy,sn⟩:Fm) fm0;rw [xi8 h0] at heq
     (focus ((with_reducible apply d9 _ _ _ (by kernel_rfl) (by kernel_rfl) hS);(repeat' (first|(first|(with_reducible apply g8 c9);rfl;rfl|(with_reducible apply i7);rfl;(intro wd hd;replace hd:St _ _ wd _:=hd;(first|apply Ld.sc c9;rfl;exact hd.blkC 1 rfl rfl|apply Ld.st c9;rfl;exact hd.blkR 1 rfl;rfl));rfl|(with_reducible apply a5g c9);rfl;rfl;exact (rfl:_=some [_,_,_,_]);rfl|(first|((with_reducible apply y7);(iterate 4 rfl);first|rfl|assumption)|(with_reducible apply a1I);(iterate 4 rfl);assumption;rfl|(with_reducible apply a2c);(iterate 5 rfl)|(with_reducible apply q7);rfl;assumption;rfl;rfl|(with_reducible apply o5);rfl;(first|rfl|assumption);rfl;rfl))|(with_reducible apply a5I);rfl;rfl;exact heq;rfl));all_goals ((with_reducible apply k8);intro w' hS';clear hS;have hS:=hS';clear hS')))
     repeat' (first|(with_reducible apply d5 c9);rfl;rfl;rfl|(with_reducible apply j7);rfl;rfl;omega;omega;rfl|refine yDn (by with_reducible constructor) ?_|(with_reducible apply i9);rfl;rfl)
     refine a0N (i + 1) (by exact Fr.sub_of rfl) (by omega) (fun j y hj hy=>?_) (by omega) hS.drop.drop;by_cases e:j=i
     ·subst e;rw [hf] at hy
      cases hy
      exact by rw [<- hNN];exact xi8 h0
     ·exact hall j y (by omega) hy
    ·have heq:=b5m (⟨dt,rf,dy,sn⟩:Fm) fm0;rw [xi7 h0] at heq
     (focus ((with_reducible apply d9 _ _ _ (by kernel_rfl) (by kernel_rfl) hS);(repeat' (first|(first|(with_reducible apply g8 c9);rfl;rfl|(with_reducible apply i7);rfl;(intro wd hd;replace hd:St _ _ wd _:=hd;(first|apply Ld.sc c9;rfl;exact hd.blkC 1 rfl rfl|apply Ld.st c9;rfl;exact hd.blkR 1 rfl;rfl));rfl|(with_reducible apply a5g c9);rfl;rfl;exact (rfl:_=some [_,_,_,_]);rfl|(first|(with_reducible apply y7);(iterate 4 rfl);assumption|(with_reducible apply a1I);(iterate 4 rfl);rfl;rfl|(with_reducible apply a2c);(iterate 5 rfl)|(with_reducible apply q7);rfl;(first|rfl|assumption);rfl;rfl|(with_reducible apply o5);rfl;assumption;rfl;rfl))|(with_reducible apply a5I);rfl;rfl;exact heq;rfl));all_goals ((with_reducible apply k8);intro w' hS';clear hS;have hS:=hS';clear hS')))
     repeat' (first|(with_reducible apply d5 c9);rfl;rfl;rfl|refine yDn (by with_reducible constructor) ?_|(with_reducible apply i6);rfl;rfl)
     (refine l4 rfl ?_)
     refine ⟨?_,hS.sub (xi4 _)⟩;rw [hfe,a1B hf (by rw [<- hNN];exact xi7 h0),xi5];rfl
   |cons n0 r=>
    rw [xb0] at hc;have hz:decide (c=0)=false:=xi7 (by omega);have hgt:decide (0 < c)=true:=xi8 (by omega);obtain ⟨hq1,hq2⟩:=hN2 n0 r rfl
    cases hal:a0n (n0::r) with
    |false=>
     rw [hal] at hq1;subst hq1
     (focus ((with_reducible apply d9 _ _ _ (by kernel_rfl) (by kernel_rfl) hS);(repeat' ((first|(with_reducible apply g8 c9);rfl;rfl|(with_reducible apply i7);rfl;(intro wd hd;replace hd:St _ _ wd _:=hd;(apply Ld.sc c9;rfl;exact hd.blkC 1 rfl rfl));rfl|(first|((with_reducible apply y7);(iterate 4 rfl);first|rfl|assumption)|(with_reducible apply a1I);(iterate 4 rfl);(first|rfl|assumption);rfl|(with_reducible apply a2c);(iterate 5 rfl)|(with_reducible apply q7);rfl;(first|rfl|assumption);rfl;rfl|(with_reducible apply o5);rfl;(first|rfl|assumption);rfl;rfl))));all_goals ((with_reducible apply k8);intro w' hS';clear hS;have hS:=hS';clear hS')))
     repeat' (first|(with_reducible apply d5 c9);rfl;rfl;rfl|refine yDn (by with_reducible constructor) ?_|(with_reducible apply i6);rfl;rfl)
     (refine l4 rfl ?_)
     refine ⟨?_,hS.sub (xi4 _)⟩;rw [hfe,a1B hf (by rw [<- hNN,xj0];intro h;rw [a2E.2 (a11.1 h).same] at hal;cases hal),xi5];rfl
    |true=>
     obtain ⟨rfl,hza⟩:=hq2 hal;rw [hal] at hq1;subst hq1;by_cases hl:(dt.length:Int)=16;rotate_left
     ·have hdl:(!decide ((dt.length:Int)=16))=true:=by rw [xi7 hl];rfl
      (focus ((with_reducible apply d9 _ _ _ (by kernel_rfl) (by kernel_rfl) hS);(repeat' ((first|(with_reducible apply g8 c9);rfl;rfl|(with_reducible apply i7);rfl;(intro wd hd;replace hd:St _ _ wd _:=hd;(apply Ld.sc c9;rfl;exact hd.blkC 1 rfl rfl));rfl|(first|((with_reducible apply y7);(iterate 4 rfl);first|rfl|assumption)|(with_reducible apply a1I);(iterate 4 rfl);assumption;rfl|(with_reducible apply a2c);(iterate 5 rfl)|(with_reducible apply q7);rfl;assumption;rfl;rfl|(with_reducible apply o5);rfl;(first|rfl|assumption);rfl;rfl))));all_goals ((with_reducible apply k8);intro w' hS';clear hS;have hS:=hS';clear hS')))
      repeat' (first|(with_reducible apply d5 c9);rfl;rfl;rfl|refine yDn (by with_reducible constructor) ?_|(with_reducible apply i6);rfl;rfl)
      (refine l4 rfl ?_)
      refine ⟨?_,hS.sub (xi4 _)⟩;rw [hfe,a1B hf (by rw [<- hNN,xj0];exact fun h=>hl (by rw [(a11.1 h).len (by simp)];rfl)),xi5];rfl
     have hdl:(!decide ((dt.length:Int)=16))=false:=by rw [xi8 hl];rfl
     have hbase:∀ c:Bool,a0Y (shs sh) ⟨dt,rf,dy,sn⟩ (n0::r)=(decide (rf=((n0::r).length:Int)/\dt.length=16) && (a0n (n0::r) && (dy||decide (some dt=a0L (shs sh) n0.2.z n0.1.page)))):=fun _=>rfl;have hbase:=hbase true;rw [hal,xi8 (⟨hr.trans hc,by omega⟩:rf=((n0::r).length:Int)/\dt.length=16),xi6,xi6] at hbase
     cases dy with
     |true=>
      (focus ((with_reducible apply d9 _ _ _ (by kernel_rfl) (by kernel_rfl) hS);(repeat' ((first|(with_reducible apply g8 c9);rfl;rfl|(with_reducible apply i7);rfl;(intro wd hd;replace hd:St _ _ wd _:=hd;(apply Ld.sc c9;rfl;exact hd.blkC 1 rfl rfl));rfl|(first|((with_reducible apply y7);(iterate 4 rfl);first|rfl|assumption)|(with_reducible apply a1I);(iterate 4 rfl);(first|rfl|assumption);rfl|(with_reducible apply q7);rfl;assumption;rfl;rfl|(with_reducible apply o5);rfl;(first|rfl|assumption);rfl;rfl))));all_goals ((with_reducible apply k8);intro w' hS';clear hS;have hS:=hS';clear hS')))
      repeat' (first|(with_reducible apply d5 c9);rfl;rfl;rfl|(with_reducible apply j7);rfl;rfl;omega;omega;rfl|refine yDn (by with_reducible constructor) ?_|(with_reducible apply i9);rfl;rfl)
      refine a0N (i + 1) (by exact Fr.sub_of rfl) (by omega) (fun j y hj hy=>?_) (by omega) hS.drop.drop;by_cases e:j=i
      ·subst e;rw [hf] at hy
       cases hy
       exact by rw [<- hNN];exact hbase
      ·exact hall j y (by omega) hy
     |false=>
      obtain ⟨x,hx⟩:=hfn n0 xc4;rw [hx,xj1] at hbase;have hfil:=hfl x (by rw [hza];exact hx);by_cases hxd:dt=x
      ·have hdx:(!decide (dt=x))=false:=by rw [xi8 hxd];rfl
       (focus ((with_reducible apply d9 _ _ _ (by kernel_rfl) (by kernel_rfl) hS);(repeat' (first|(first|(with_reducible apply g8 c9);rfl;rfl|(with_reducible apply i7);rfl;(intro wd hd;replace hd:St _ _ wd _:=hd;(first|apply Ld.sc c9;rfl;exact hd.blkC 1 rfl rfl|apply Ld.st c9;rfl;(first|exact hd.blkR 0 rfl|exact hd.blkR 2 rfl);rfl));rfl|(first|((with_reducible apply y7);(iterate 4 rfl);first|rfl|assumption)|(with_reducible apply a1I);(iterate 4 rfl);assumption;rfl|(with_reducible apply q7);rfl;(first|rfl|assumption);rfl;rfl|(with_reducible apply o5);rfl;(first|rfl|assumption);rfl;rfl))|(with_reducible apply s5);rfl;rfl;rfl;refine ⟨_,fun wd hd=>hfil _ (hK0.now hd),?_⟩));all_goals ((with_reducible apply k8);intro w' hS';clear hS;have hS:=hS';clear hS')))
       repeat' (first|(with_reducible apply d5 c9);rfl;rfl;rfl|(with_reducible apply j7);rfl;rfl;omega;omega;rfl|refine yDn (by with_reducible constructor) ?_|(with_reducible apply i9);rfl;assumption)
       refine a0N (i + 1) (by exact Fr.sub_of rfl) (by omega) (fun j y hj hy=>?_) (by omega) hS.drop.drop;by_cases e:j=i
       ·subst e;rw [hf] at hy
        cases hy
        exact by rw [<- hNN,hbase];exact xi8 (by rw [hxd])
       ·exact hall j y (by omega) hy
      ·have hdx:(!decide (dt=x))=true:=by rw [xi7 hxd];rfl
       (focus ((with_reducible apply d9 _ _ _ (by kernel_rfl) (by kernel_rfl) hS);(repeat' (first|(first|(with_reducible apply g8 c9);rfl;rfl|(with_reducible apply i7);rfl;(intro wd hd;replace hd:St _ _ wd _:=hd;(first|apply Ld.sc c9;rfl;exact hd.blkC 1 rfl rfl|apply Ld.st c9;rfl;(first|exact hd.blkR 0 rfl|exact hd.blkR 2 rfl);rfl));rfl|(first|((with_reducible apply y7);(iterate 4 rfl);first|rfl|assumption)|(with_reducible apply a1I);(iterate 4 rfl);assumption;rfl|(with_reducible apply q7);rfl;(first|rfl|assumption);rfl;rfl|(with_reducible apply o5);rfl;(first|rfl|assumption);rfl;rfl))|(with_reducible apply s5);rfl;rfl;rfl;refine ⟨_,fun wd hd=>hfil _ (hK0.now hd),?_⟩));all_goals ((with_reducible apply k8);intro w' hS';clear hS;have hS:=hS';clear hS')))
       repeat' (first|(with_reducible apply d5 c9);rfl;rfl;rfl|refine yDn (by with_reducible constructor) ?_|(with_reducible apply i6);rfl;assumption)
       (refine l4 rfl ?_)
       refine ⟨?_,hS.sub (xi4 _)⟩;rw [hfe,a1B hf (by rw [<- hNN,hbase];exact xi7 (fun h=>hxd (Option.some.inj h))),xi5];rfl
  have hfb:a0t ⟨shs sh,fr,sl,sp.map (·.s),hand⟩=true:=a93 (fun j f hf=>hall j f (by have:=f7 hf;have h9:(⟨shs sh,fr,sl,sp.map (·.s),hand⟩:Ker).frames.length=fr.length:=rfl;omega) hf);clear hall;rw [hfb,xi6] at hfe
  repeat' (first|(with_reducible apply d5 c9);rfl;rfl;rfl|(with_reducible apply d6);rfl;(apply Ld.sl c9;rfl;exact hS.blkC 0 rfl rfl);rfl|refine yDn (by with_reducible constructor) ?_|(with_reducible apply d8);rfl;all_goals (intro hb hp;try (exfalso;omega)))
  refine a19 hS 10 [1] rfl sl.length (fun i=>∀ (j:Nat) f,j < i->sl[j]?=some f->a1A f (j8 (sp.map (·.s)) 2 (j:Nat))=true) 0 rfl (xf9 _) (fun _ _ h=>absurd h (Nat.not_lt_zero _)) ?_;rintro i w3 hi hall hS';clear hS;have hS:=hS';clear hS';by_cases hlt:i < sl.length;rotate_left
  ·rw [b1n (fun j f hf=>hall j f (by have:=f7 hf;have h9:(⟨shs sh,fr,sl,sp.map (·.s),hand⟩:Ker).slots.length=sl.length:=rfl;omega) hf)] at hfe;rw [hfe]
   repeat' (first|(with_reducible apply d5 c9);rfl;rfl;rfl|(with_reducible apply d6);rfl;(apply Ld.sl c9;rfl;exact hS.blkC 0 rfl rfl);rfl|refine yDn (by with_reducible constructor) ?_|(with_reducible apply d8);rfl;all_goals (intro hb hp;try (exfalso;omega)))
   (refine l4 rfl ?_)
   exact ⟨rfl,hS.sub (xi4 _)⟩
  obtain ⟨f,hf⟩:=j4 (l:=sl) (i:=i) (by omega);have hrow:=f8 (f:=swC) hf;obtain ⟨b,off,rfl,hro⟩:=k3.at_ (i:=i) hlt;unfold swC at hrow;have hn1:=fun w1 h=>hnm w1 h 2 (i:Nat);obtain ⟨p,q,a,hN,hN2⟩:=a69 (j8 (sp.map (·.s)) 2 (i:Nat));unfold nmV at hn1;rw [hN] at hn1;unfold arC at hn1;dsimp only at hn1;obtain ⟨N,hNN⟩:∃ N,N=j8 (sp.map (·.s)) 2 (i:Nat):=⟨_,rfl⟩;rw [<- hNN] at hn1 hN2;obtain ⟨c,hc⟩:∃ c:Int,c=(N.length:Int):=⟨_,rfl⟩;rw [<- hc] at hn1;obtain ⟨dt,rf⟩:=f;dsimp only at hrow;have heq:=True.intro;by_cases hr:rf=c;rotate_left
  ·have hdr:(!decide (rf=c))=true:=by rw [xi7 hr];rfl
   repeat' (first|(with_reducible apply d5 c9);rfl;rfl;rfl|(with_reducible apply d6);rfl;(first|apply Ld.sc c9;rfl;exact hS.blkC 1 rfl rfl|apply Ld.sl c9;rfl;exact hS.blkC 0 rfl rfl|apply Ld.st c9;rfl;(first|exact hS.blkR 1 rfl|exact hS.roR (by assumption) (by assumption));rfl);rfl|(with_reducible apply m8 c9);rfl;rfl;rfl;rfl;omega;rfl|refine yDn (by with_reducible constructor) ?_|(with_reducible apply a0a);(iterate 4 rfl);(first|rfl|assumption);rfl|(with_reducible apply a0P);(iterate 5 rfl)|(with_reducible apply j9);rfl;(first|rfl|assumption);rfl;rfl|(with_reducible apply i6);rfl;rfl|(with_reducible apply f5 hS c9);rfl;rfl;rfl;clear hS;intro g w' hS|(with_reducible apply d7 hS c9 (i:=0));(iterate 8 rfl);(first|exact (rfl:_=[_,_])|exact (rfl:_=[_,_,_,_]));clear hS;intro w' hS;simp only [List.set] at hS|(with_reducible apply d8);rfl;all_goals (intro hb hp;try (exfalso;omega))|(with_reducible apply f9 hS);rfl;rfl;rfl;refine ⟨_,hn1 _ (hK0.now hS),?_⟩;clear hS;intro w' hS)
   (refine l4 rfl ?_)
   refine ⟨?_,hS.sub (xi4 _)⟩;rw [hfe,a2C hf (by rw [<- hNN,xj0];exact fun h=>hr ((a2l.1 h).refs.trans hc.symm))];rfl
  have hdr:(!decide (rf=c))=false:=by rw [xi8 hr];rfl
  cases N with
  |nil=>
   have hz:decide (c=0)=true:=xi8 hc;have hgt:decide (0 < c)=false:=xi7 (by rw [hc];simp);by_cases h0:(⟨dt,rf⟩:Sw)=sw0
   ·have heq:=b2X (⟨dt,rf⟩:Sw) sw0;rw [xi8 h0] at heq
    repeat' (first|(with_reducible apply d5 c9);rfl;rfl;rfl|(with_reducible apply d6);rfl;(first|apply Ld.sc c9;rfl;exact hS.blkC 1 rfl rfl|apply Ld.sl c9;rfl;exact hS.blkC 0 rfl rfl|apply Ld.st c9;rfl;(first|exact hS.blkR 1 rfl|exact hS.roR (by assumption) (by assumption));rfl);rfl|(with_reducible apply m8 c9);rfl;rfl;rfl;rfl;omega;rfl|(with_reducible apply j7);rfl;rfl;omega;omega;rfl|(with_reducible apply v8 c9);rfl;rfl;exact (rfl:_=some [_,_]);rfl|refine yDn (by with_reducible constructor) ?_|((with_reducible apply l8);(iterate 4 rfl);first|rfl|assumption)|(with_reducible apply a0a);(iterate 4 rfl);assumption;rfl|(with_reducible apply a0P);(iterate 5 rfl)|(with_reducible apply j9);rfl;assumption;rfl;rfl|(with_reducible apply i4);rfl;(first|rfl|assumption);rfl;rfl|(with_reducible apply i9);rfl;rfl|(with_reducible apply f5 hS c9);rfl;rfl;rfl;clear hS;intro g w' hS|(with_reducible apply d7 hS c9 (i:=0));(iterate 8 rfl);(first|exact (rfl:_=[_,_])|exact (rfl:_=[_,_,_,_]));clear hS;intro w' hS;simp only [List.set] at hS|(with_reducible apply d8);rfl;all_goals (intro hb hp;try (exfalso;omega))|(with_reducible apply f9 hS);rfl;rfl;rfl;refine ⟨_,hn1 _ (hK0.now hS),?_⟩;clear hS;intro w' hS|(with_reducible apply b0a);rfl;rfl;exact heq;rfl)
    refine a0N (i + 1) (by exact Fr.sub_of rfl) (by omega) (fun j y hj hy=>?_) (by omega) hS.drop.drop;by_cases e:j=i
    ·subst e;rw [hf] at hy
     cases hy
     exact by rw [<- hNN];exact xi8 h0
    ·exact hall j y (by omega) hy
   ·have heq:=b2X (⟨dt,rf⟩:Sw) sw0;rw [xi7 h0] at heq
    repeat' (first|(with_reducible apply d5 c9);rfl;rfl;rfl|(with_reducible apply d6);rfl;(first|apply Ld.sc c9;rfl;exact hS.blkC 1 rfl rfl|apply Ld.sl c9;rfl;exact hS.blkC 0 rfl rfl|apply Ld.st c9;rfl;(first|exact hS.blkR 1 rfl|exact hS.roR (by assumption) (by assumption));rfl);rfl|(with_reducible apply m8 c9);rfl;rfl;rfl;rfl;omega;rfl|(with_reducible apply v8 c9);rfl;rfl;exact (rfl:_=some [_,_]);rfl|refine yDn (by with_reducible constructor) ?_|(with_reducible apply l8);(iterate 4 rfl);assumption|(with_reducible apply a0a);(iterate 4 rfl);rfl;rfl|(with_reducible apply a0P);(iterate 5 rfl)|(with_reducible apply j9);rfl;(first|rfl|assumption);rfl;rfl|(with_reducible apply i4);rfl;assumption;rfl;rfl|(with_reducible apply i6);rfl;rfl|(with_reducible apply f5 hS c9);rfl;rfl;rfl;clear hS;intro g w' hS|(with_reducible apply d7 hS c9 (i:=0));(iterate 8 rfl);(first|exact (rfl:_=[_,_])|exact (rfl:_=[_,_,_,_]));clear hS;intro w' hS;simp only [List.set] at hS|(with_reducible apply d8);rfl;all_goals (intro hb hp;try (exfalso;omega))|(with_reducible apply f9 hS);rfl;rfl;rfl;refine ⟨_,hn1 _ (hK0.now hS),?_⟩;clear hS;intro w' hS|(with_reducible apply b0a);rfl;rfl;exact heq;rfl)
    (refine l4 rfl ?_)
    refine ⟨?_,hS.sub (xi4 _)⟩;rw [hfe,a2C hf (by rw [<- hNN];exact xi7 h0)];rfl
  |cons n0 r=>
   rw [xb0] at hc;have hz:decide (c=0)=false:=xi7 (by omega);have hgt:decide (0 < c)=true:=xi8 (by omega);obtain ⟨hq1,hq2⟩:=hN2 n0 r rfl
   cases hal:a0n (n0::r) with
   |false=>
    rw [hal] at hq1;subst hq1
    repeat' (first|(with_reducible apply d5 c9);rfl;rfl;rfl|(with_reducible apply d6);rfl;(first|apply Ld.sc c9;rfl;exact hS.blkC 1 rfl rfl|apply Ld.sl c9;rfl;exact hS.blkC 0 rfl rfl|apply Ld.st c9;rfl;(first|exact hS.blkR 1 rfl|exact hS.roR (by assumption) (by assumption));rfl);rfl|(with_reducible apply m8 c9);rfl;rfl;rfl;rfl;omega;rfl|refine yDn (by with_reducible constructor) ?_|((with_reducible apply l8);(iterate 4 rfl);first|rfl|assumption)|(with_reducible apply a0a);(iterate 4 rfl);(first|rfl|assumption);rfl|(with_reducible apply j9);rfl;(first|rfl|assumption);rfl;rfl|(with_reducible apply i4);rfl;(first|rfl|assumption);rfl;rfl|(with_reducible apply i6);rfl;rfl|(with_reducible apply f5 hS c9);rfl;rfl;rfl;clear hS;intro g w' hS|(with_reducible apply d7 hS c9 (i:=0));(iterate 8 rfl);(first|exact (rfl:_=[_,_])|exact (rfl:_=[_,_,_,_]));clear hS;intro w' hS;simp only [List.set] at hS|(with_reducible apply d8);rfl;all_goals (intro hb hp;try (exfalso;omega))|(with_reducible apply f9 hS);rfl;rfl;rfl;refine ⟨_,hn1 _ (hK0.now hS),?_⟩;clear hS;intro w' hS)
    (refine l4 rfl ?_)
    refine ⟨?_,hS.sub (xi4 _)⟩;rw [hfe,a2C hf (by rw [<- hNN,xj0];intro h;rw [a2E.2 (a2l.1 h).same] at hal;cases hal)];rfl
   |true=>
    rw [hal] at hq1;subst hq1;by_cases hl:(dt.length:Int)=16;rotate_left
    ·have hdl:(!decide ((dt.length:Int)=16))=true:=by rw [xi7 hl];rfl
     repeat' (first|(with_reducible apply d5 c9);rfl;rfl;rfl|(with_reducible apply d6);rfl;(first|apply Ld.sc c9;rfl;exact hS.blkC 1 rfl rfl|apply Ld.sl c9;rfl;exact hS.blkC 0 rfl rfl|apply Ld.st c9;rfl;(first|exact hS.blkR 1 rfl|exact hS.roR (by assumption) (by assumption));rfl);rfl|(with_reducible apply m8 c9);rfl;rfl;rfl;rfl;omega;rfl|refine yDn (by with_reducible constructor) ?_|((with_reducible apply l8);(iterate 4 rfl);first|rfl|assumption)|(with_reducible apply a0a);(iterate 4 rfl);assumption;rfl|(with_reducible apply j9);rfl;assumption;rfl;rfl|(with_reducible apply i4);rfl;(first|rfl|assumption);rfl;rfl|(with_reducible apply i6);rfl;assumption|(with_reducible apply f5 hS c9);rfl;rfl;rfl;clear hS;intro g w' hS|(with_reducible apply d7 hS c9 (i:=0));(iterate 8 rfl);(first|exact (rfl:_=[_,_])|exact (rfl:_=[_,_,_,_]));clear hS;intro w' hS;simp only [List.set] at hS|(with_reducible apply d8);rfl;all_goals (intro hb hp;try (exfalso;omega))|(with_reducible apply f9 hS);rfl;rfl;rfl;refine ⟨_,hn1 _ (hK0.now hS),?_⟩;clear hS;intro w' hS)
     (refine l4 rfl ?_)
     refine ⟨?_,hS.sub (xi4 _)⟩;rw [hfe,a2C hf (by rw [<- hNN,xj0];exact fun h=>hl (by rw [(a2l.1 h).len (by simp)];rfl))];rfl
    have hdl:(!decide ((dt.length:Int)=16))=false:=by rw [xi8 hl];rfl
    have hbase:a1A ⟨dt,rf⟩ (n0::r)=(decide (rf=((n0::r).length:Int)/\dt.length=16) && a0n (n0::r)):=rfl;rw [hal,xi8 (⟨hr.trans hc,by omega⟩:rf=((n0::r).length:Int)/\dt.length=16),xi6] at hbase
    repeat' (first|(with_reducible apply d5 c9);rfl;rfl;rfl|(with_reducible apply d6);rfl;(first|apply Ld.sc c9;rfl;exact hS.blkC 1 rfl rfl|apply Ld.sl c9;rfl;exact hS.blkC 0 rfl rfl|apply Ld.st c9;rfl;(first|exact hS.blkR 1 rfl|exact hS.roR (by assumption) (by assumption));rfl);rfl|(with_reducible apply m8 c9);rfl;rfl;rfl;rfl;omega;rfl|(with_reducible apply j7);rfl;rfl;omega;omega;rfl|refine yDn (by with_reducible constructor) ?_|((with_reducible apply l8);(iterate 4 rfl);first|rfl|assumption)|(with_reducible apply a0a);(iterate 4 rfl);assumption;rfl|(with_reducible apply j9);rfl;assumption;rfl;rfl|(with_reducible apply i4);rfl;(first|rfl|assumption);rfl;rfl|(with_reducible apply i9);rfl;assumption|(with_reducible apply f5 hS c9);rfl;rfl;rfl;clear hS;intro g w' hS|(with_reducible apply d7 hS c9 (i:=0));(iterate 8 rfl);(first|exact (rfl:_=[_,_])|exact (rfl:_=[_,_,_,_]));clear hS;intro w' hS;simp only [List.set] at hS|(with_reducible apply d8);rfl;all_goals (intro hb hp;try (exfalso;omega))|(with_reducible apply f9 hS);rfl;rfl;rfl;refine ⟨_,hn1 _ (hK0.now hS),?_⟩;clear hS;intro w' hS)
    refine a0N (i + 1) (by exact Fr.sub_of rfl) (by omega) (fun j y hj hy=>?_) (by omega) hS.drop.drop;by_cases e:j=i
    ·subst e;rw [hf] at hy
     cases hy
     exact by rw [<- hNN];exact hbase
    ·exact hall j y (by omega) hy
def b5Y (a b:Fm):Prop:=a.data=b.data/\a.refs=b.refs/\a.dirty=b.dirty
theorem b3B {l:List Fm} {i j:Nat} {x:Fm}:a16 (l.set i x) j=if i=j/\j < l.length then x else a16 l j:=by
 unfold a16;rw [xd7];by_cases e:i=j
 ·subst e;rw [xe6 rfl];by_cases h:i < l.length
  ·rw [xe6 h,xe6 ⟨rfl,h⟩];rfl
  ·rw [xe7 h,xe7 (fun hh=>h hh.2),xh2 (by omega)]
 ·rw [xe7 e,xe7 (fun hh=>e hh.1)]
theorem b3d {l:List Sw} {i j:Nat} {x:Sw}:a2J (l.set i x) j=if i=j/\j < l.length then x else a2J l j:=by
 unfold a2J;rw [xd7];by_cases e:i=j
 ·subst e;rw [xe6 rfl];by_cases h:i < l.length
  ·rw [xe6 h,xe6 ⟨rfl,h⟩];rfl
  ·rw [xe7 h,xe7 (fun hh=>h hh.2),xh2 (by omega)]
 ·rw [xe7 e,xe7 (fun hh=>e hh.1)]
theorem FmOk.alike {sh:List Sh} {f g:Fm} {N:List Nm} (h:FmOk sh f N) (ha:b5Y g f) (hr:f.refs≠0):FmOk sh g N:=by
 obtain ⟨a1,a2,a3⟩:=ha;refine ⟨by rw [a2];exact h.refs,fun e=>absurd (by rw [h.refs,e];rfl) hr,by rw [a1];exact h.len,h.same,fun n hn=>by rw [a1,a3];exact h.data n hn⟩
theorem b1B {l:List En} {p:Int} {e:En} (h:a3g l p=some e):e ∈ l/\e.page=p:=⟨xh9 h,by have:=xi0 h;simpa using this⟩
theorem z7 {K:Ker} {sp:Nat} {s:Sc} (h:K.spaces[sp]?=some s):a0I K sp=s:=by unfold a0I;rw [h];rfl
theorem a6R {K:Ker} {sp:Nat} (h:K.spaces[sp]?=none):a0I K sp=sc0:=by unfold a0I;rw [h];rfl
theorem Right.ent {K:Ker} (h:Right K) {sp:Nat} {s:Sc} {e:En} (hs:K.spaces[sp]?=some s) (he:e ∈ s.entries) :
  (m9 s.areas e.page).isSome=true/\((e.kind=1/\(∃ f:Nat,e.at_=(f:Nat)/\f < K.frames.length))\/(e.kind=2/\∃ f:Nat,e.at_=(f:Nat)/\f < K.slots.length)):=by
 have h1:=(a2x.1 (h.spaces s (xc8 hs))).ents e he;refine ⟨h1.1,?_⟩;rcases h1.2 with ⟨a,b,c⟩|⟨a,b,c⟩
 ·exact xd4 ⟨a,e.at_.toNat,by omega,by omega⟩
 ·exact xd1 ⟨a,e.at_.toNat,by omega,by omega⟩
structure SameP (K K':Ker):Prop where
 sheets:K'.sheets=K.sheets
 nfr:K'.frames.length=K.frames.length
 nsl:K'.slots.length=K.slots.length
 nsp:K'.spaces.length=K.spaces.length
 ar:∀ sp,m6 K' sp=m6 K sp
 live:∀ sp,(a0I K' sp).live=(a0I K sp).live
 peek:∀ sp p,a24 K' sp p=a24 K sp p
theorem SameP.refl (K:Ker):SameP K K:=⟨rfl,rfl,rfl,rfl,fun _=>rfl,fun _=>rfl,fun _ _=>rfl⟩
theorem SameP.trans {K K' K2:Ker} (h:SameP K K') (h2:SameP K' K2):SameP K K2:=⟨h2.sheets.trans h.sheets,h2.nfr.trans h.nfr,h2.nsl.trans h.nsl,h2.nsp.trans h.nsp,fun s=>(h2.ar s).trans (h.ar s),fun s=>(h2.live s).trans (h.live s),fun s p=>(h2.peek s p).trans (h.peek s p)⟩
theorem a8r {K K':Ker} {sp:Nat} (hs:K'.sheets=K.sheets) (ha:m6 K' sp=m6 K sp) (p:Int):a7v K' sp p=a7v K sp p:=by
 unfold a7v zAt;rw [hs,ha]
def nmL (s:Sc) (k a:Int) (l:List En):List Nm:=(l.filter fun e=>decide (e.kind=k/\e.at_=a)).map (a1i s)
theorem b3L {s:Sc} {k a:Int} {l m:List En} (h:l.Perm m):(nmL s k a l).Perm (nmL s k a m):=(h.filter _).map _
theorem b5j (s:Sc) (k a:Int) (l m:List En):nmL s k a (l++m)=nmL s k a l++nmL s k a m:=by unfold nmL;rw [xj2,xj3]
theorem b0f {s:Sc} {k a:Int} {e:En} (l:List En) (h:e.kind=k/\e.at_=a):nmL s k a (e::l)=a1i s e::nmL s k a l:=by unfold nmL;rw [xj4 (by simpa using h)];rfl
theorem b2H {s:Sc} {k a:Int} {e:En} (l:List En) (h:¬(e.kind=k/\e.at_=a)):nmL s k a (e::l)=nmL s k a l:=by unfold nmL;rw [xj5 (by simpa using h)]
theorem a50 {L:List Sc} {sp:Nat} {s s':Sc} (h:L[sp]?=some s) (k a:Int):(j8 (L.set sp s') k a).Perm (nm1 s' k a++j8 (L.eraseIdx sp) k a)/\(j8 L k a).Perm (nm1 s k a++j8 (L.eraseIdx sp) k a):=by
 constructor
 ·have:=a2L (l:=L.set sp s') (k:=sp) (b:=s') (by rw [xd7];simp;exact f7 h);rw [a0Z] at this;exact this.flatMap_right _
 ·exact (a2L h).flatMap_right _
theorem FmOk.dec {sh:List Sh} {f:Fm} {n:Nm} {N:List Nm} (h:FmOk sh f (n::N)):FmOk sh (a2o f) N:=by
 have hr:=h.refs;rw [xb0] at hr;unfold a2o;by_cases h0:f.refs - 1=0
 ·rw [xe6 h0];obtain rfl:N=[]:=xe8 (by omega);exact FmOk.zero sh
 ·rw [xe7 h0];exact ⟨by show f.refs - 1=_;omega,fun e=>absurd (by rw [e] at hr;simp at hr;omega) h0,fun _=>h.len (by simp),fun a ha b hb=>h.same a (xc5 _ ha) b (xc5 _ hb),fun a ha=>h.data a (xc5 _ ha)⟩
theorem SwOk.dec {f:Sw} {n:Nm} {N:List Nm} (h:SwOk f (n::N)):SwOk (a2w f) N:=by
 have hr:=h.refs;rw [xb0] at hr;unfold a2w;by_cases h0:f.refs - 1=0
 ·rw [xe6 h0];obtain rfl:N=[]:=xe8 (by omega);exact SwOk.zero
 ·rw [xe7 h0];exact ⟨by show f.refs - 1=_;omega,fun e=>absurd (by rw [e] at hr;simp at hr;omega) h0,fun _=>h.len (by simp),fun a ha b hb=>h.same a (xc5 _ ha) b (xc5 _ hb)⟩
theorem b26 {sh:List Sh} {f:Fm} {n m:Nm} {N:List Nm} (h:FmOk sh f (n::m::N)):(a2o f).data=f.data:=by
 have hr:=h.refs;rw [xb0,xb0] at hr;unfold a2o;rw [xe7 (by omega)]
theorem b0T {f:Sw} {n m:Nm} {N:List Nm} (h:SwOk f (n::m::N)):(a2w f).data=f.data:=by
 have hr:=h.refs;rw [xb0,xb0] at hr;unfold a2w;rw [xe7 (by omega)]
structure InOk (K K':Ker) (sp:Nat) (page:Int) (f:Nat) (data:List UInt8) (dirty:Bool):Prop where
 right:Right K'
 sheets:K'.sheets=K.sheets
 nfr:K'.frames.length=K.frames.length
 nsl:K'.slots.length=K.slots.length
 nsp:K'.spaces.length=K.spaces.length
 ar:∀ i,m6 K' i=m6 K i
 live:∀ i,(a0I K' i).live=(a0I K i).live
 peek:∀ i p,¬(i=sp/\p=page)->a24 K' i p=a24 K i p
 here:a24 K' sp page=data
 ent:∀ i p,a3g (w9 K' i) p=if i=sp/\p=page then some ⟨page,1,(f:Nat)⟩ else a3g (w9 K i) p
 fm:a16 K'.frames f=⟨data,1,dirty,false⟩
 other:∀ i,i≠f->(∀ w0,a3g (w9 K sp) page=some w0->¬(w0.kind=1/\w0.at_=((i:Nat):Int)))->a16 K'.frames i=a16 K.frames i
structure At (K:Ker) (sp:Nat) (page:Int):Prop where
 live:(a0I K sp).live=true
 ar:(m9 (m6 K sp) page).isSome=true
theorem At.sc {K:Ker} {sp:Nat} {page:Int} (h:At K sp page):∃ s,K.spaces[sp]?=some s/\s.live=true/\(m9 s.areas page).isSome=true:=by
 have h1:=h.live;have h2:=h.ar;unfold m6 at h2
 cases hs:K.spaces[sp]? with
 |none=>rw [a6R hs] at h1;cases h1
 |some s=>rw [z7 hs] at h1 h2;exact ⟨s,rfl,h1,h2⟩
theorem At.same {K K':Ker} {sp:Nat} {page:Int} (h:At K sp page) (h1:∀ i,m6 K' i=m6 K i) (h2:∀ i,(a0I K' i).live=(a0I K i).live):At K' sp page:=⟨(h2 sp).trans h.live,by rw [h1];exact h.ar⟩
theorem InOk.same {K K' K2:Ker} {sp:Nat} {page:Int} {f:Nat} {data:List UInt8} {dirty:Bool} (h:InOk K' K2 sp page f data dirty) (h0:SameP K K') (hp:data=a24 K sp page):SameP K K2:=by
 refine ⟨h.sheets.trans h0.sheets,h.nfr.trans h0.nfr,h.nsl.trans h0.nsl,h.nsp.trans h0.nsp,fun i=>(h.ar i).trans (h0.ar i),fun i=>(h.live i).trans (h0.live i),fun i p=>?_⟩;by_cases e:i=sp/\p=page
 ·obtain ⟨rfl,rfl⟩:=e;rw [h.here,hp]
 ·rw [h.peek i p e,h0.peek]
def a0c (K:Ker) (space:Int):Int:=if a09 K=0 then (if 0<=space/\space < (K.spaces.length:Int)/\(a0I K space.toNat).live=true then 0 else 6) else a09 K
def b6v (K:Ker) (space size way:Int):Int:=if a0c K space=0 then (if size < 1\/8 < size then 3 else if way < 0\/2 < way then 10 else 0) else a0c K space
def b6y (A:List Ar) (way at_:Int):Option (Int×Int):=match m9 A (at_.tdiv 16) with
 |none=>some (1,at_)
 |some a=>if at_ < 0 then some (1,at_) else if (way=1/\¬(a.prot=1\/a.prot=3))\/(way=2/\a.prot < 2) then some (2,at_) else none
def b6J (A:List Ar) (addr size way:Int):Int×Int:=if way=2/\addr.tmod 8≠0 then (3,addr) else ((List.range size.toNat).findSome? fun i=>b6y A way (addr + (i:Nat))).getD (0,0)
theorem a6b {w:World} {k:KV} (hK:KerV w k) (space:Int):Fn Tryz.prog 48 [.agg (kvC k).toArray,.int .i64 space] w (RBf (.int .i64 (a0c k.K space)) w):=by
 have hchk:=fun w1 (h:KerV w1 k)=>a8T h;have hsc:∀ (i:Nat) x,k.sp[i]?=some x->a0I k.K i=x.s:=fun i x hx=>by unfold a0I KV.K;dsimp only;rw [xh0,hx];rfl
 have hKl:k.K.spaces.length=k.sp.length:=xi3 _;have b4:=hK.sp.bound;unfold a0c;rw [hKl];obtain ⟨c,hc⟩:∃ c,c=a09 k.K:=⟨_,rfl⟩;rw [<- hc] at hchk |-;clear hKl hc;generalize k.K=K at hsc |-;obtain ⟨sh,fr,sl,sps,hand,vsh,vfr,vsl,vsp⟩:=k;have hK0:=hK;obtain ⟨k1,k2,k3,k4,k5⟩:=hK;dsimp only at k1 k2 k3 k4 k5;obtain ⟨p1,c1,rfl⟩:=k1.sl.len;obtain ⟨p2,c2,rfl⟩:=k2.len;obtain ⟨p3,c3,rfl⟩:=k3.len;obtain ⟨p4,c4,rfl⟩:=k4.len;dsimp only at hsc b4 |-;unfold kvC at hchk |-;dsimp only at hchk |-;by_cases hc0:c=0;rotate_left
 ·rw [xe7 hc0];have hd:decide (c=0)=false:=xi7 hc0;refine yEn Tryz.func48 Tryz.ntmps48 (by kernel_rfl) (by kernel_rfl) rfl rfl ?_;have hS:=St.start w
  repeat' (first|(with_reducible apply d5 c9);rfl;rfl;rfl|(with_reducible apply d6);rfl;(apply Ld.st c9;rfl;exact hS.blkR 0 rfl;rfl);rfl|refine yDn (by with_reducible constructor) ?_|(with_reducible apply a0a);(iterate 4 rfl);assumption;rfl|(with_reducible apply a0P);(iterate 5 rfl)|(with_reducible apply i4);rfl;assumption;rfl;rfl|(with_reducible apply i9);rfl;rfl|(with_reducible apply j6 hS);rfl;rfl;rfl;clear hS;intro g w' hS|(with_reducible apply f9 hS);rfl;rfl;rfl;refine ⟨_,hchk _ (hK0.now hS),?_⟩;clear hS;intro w' hS)
  (refine l4 rfl ?_)
  exact ⟨rfl,hS.sub (xi4 _)⟩
 rw [xe6 hc0];have hd:decide (c=0)=true:=xi8 hc0;by_cases hin:0<=space/\space<=(sps.length:Int) - 1;rotate_left
 ·rw [xe7 (fun h=>hin ⟨h.1,by omega⟩)];have hd2:(!decide (0<=space/\space<=(sps.length:Int) - 1))=true:=by rw [xi7 hin];rfl
  refine yEn Tryz.func48 Tryz.ntmps48 (by kernel_rfl) (by kernel_rfl) rfl rfl ?_;have hS:=St.start w
  repeat' (first|(with_reducible apply d5 c9);rfl;rfl;rfl|(with_reducible apply d6);rfl;(first|apply Ld.sl c9;rfl;exact hS.blkC 0 rfl rfl|apply Ld.st c9;rfl;exact hS.blkR 0 rfl;rfl);rfl|(with_reducible apply a0w);rfl;rfl;omega;omega;rfl|refine yDn (by with_reducible constructor) ?_|(with_reducible apply l8);(iterate 4 rfl);assumption|(with_reducible apply a0a);(iterate 4 rfl);assumption;rfl|(with_reducible apply j9);rfl;assumption;rfl;rfl|(with_reducible apply i6);rfl;rfl|(with_reducible apply j6 hS);rfl;rfl;rfl;clear hS;intro g w' hS|(with_reducible apply f9 hS);rfl;rfl;rfl;refine ⟨_,hchk _ (hK0.now hS),?_⟩;clear hS;intro w' hS|(with_reducible apply f9 hS);rfl;rfl;rfl;refine ⟨_,n6 _ _ _ _,?_⟩;clear hS;intro w' hS)
  (refine l4 rfl ?_)
  exact ⟨rfl,hS.sub (xi4 _)⟩
 have hd2:(!decide (0<=space/\space<=(sps.length:Int) - 1))=false:=by rw [xi8 hin];rfl
 obtain ⟨i,rfl⟩:∃ i:Nat,space=(i:Nat):=⟨space.toNat,by omega⟩;obtain ⟨x,hx⟩:=j4 (l:=sps) (i:=i) (by omega);have hxs:=hsc i x hx;have hrow:=f8 (f:=spC) hx;obtain ⟨b,off,rfl,hro⟩:=k4.at_ (i:=i) (by omega);unfold spC at hrow;rw [show (((i:Nat):Int)).toNat=i from rfl,hxs]
 cases hlv:x.s.live with
 |false=>
  rw [xe7 (fun h=>by cases h.2.2)];rw [hlv] at hrow;refine yEn Tryz.func48 Tryz.ntmps48 (by kernel_rfl) (by kernel_rfl) rfl rfl ?_;have hS:=St.start w
  repeat' (first|(with_reducible apply d5 c9);rfl;rfl;rfl|(with_reducible apply d6);rfl;(first|apply Ld.sc c9;rfl;exact hS.roC0 (by assumption) (by assumption) rfl|apply Ld.sl c9;rfl;exact hS.blkC 0 rfl rfl|apply Ld.st c9;rfl;exact hS.blkR 0 rfl;rfl);rfl|(with_reducible apply m8 c9);rfl;rfl;rfl;rfl;omega;rfl|(with_reducible apply a0w);rfl;rfl;omega;omega;rfl|refine yDn (by with_reducible constructor) ?_|(with_reducible apply l8);(iterate 4 rfl);assumption|(with_reducible apply j9);rfl;assumption;rfl;rfl|(with_reducible apply i4);rfl;assumption;rfl;rfl|(with_reducible apply i6);rfl;rfl|(with_reducible apply j6 hS);rfl;rfl;rfl;clear hS;intro g w' hS|(with_reducible apply f9 hS);rfl;rfl;rfl;refine ⟨_,hchk _ (hK0.now hS),?_⟩;clear hS;intro w' hS|(with_reducible apply f9 hS);rfl;rfl;rfl;refine ⟨_,n6 _ _ _ _,?_⟩;clear hS;intro w' hS)
  (refine l4 rfl ?_)
  exact ⟨rfl,hS.sub (xi4 _)⟩
 |true=>
  rw [xe6 ⟨hin.1,by omega,rfl⟩];rw [hlv] at hrow;refine yEn Tryz.func48 Tryz.ntmps48 (by kernel_rfl) (by kernel_rfl) rfl rfl ?_;have hS:=St.start w
  repeat' (first|(with_reducible apply d5 c9);rfl;rfl;rfl|(with_reducible apply d6);rfl;(first|apply Ld.sc c9;rfl;exact hS.roC0 (by assumption) (by assumption) rfl|apply Ld.sl c9;rfl;exact hS.blkC 0 rfl rfl|apply Ld.st c9;rfl;exact hS.blkR 0 rfl;rfl);rfl|(with_reducible apply m8 c9);rfl;rfl;rfl;rfl;omega;rfl|(with_reducible apply a0w);rfl;rfl;omega;omega;rfl|refine yDn (by with_reducible constructor) ?_|(with_reducible apply l8);(iterate 4 rfl);assumption|(with_reducible apply j9);rfl;assumption;rfl;rfl|(with_reducible apply i4);rfl;assumption;rfl;rfl|(with_reducible apply i9);rfl;rfl|(with_reducible apply j6 hS);rfl;rfl;rfl;clear hS;intro g w' hS|(with_reducible apply f9 hS);rfl;rfl;rfl;refine ⟨_,hchk _ (hK0.now hS),?_⟩;clear hS;intro w' hS|(with_reducible apply f9 hS);rfl;rfl;rfl;refine ⟨_,n6 _ _ _ _,?_⟩;clear hS;intro w' hS)
  (refine l4 rfl ?_)
  exact ⟨by rw [hc0],hS.sub (xi4 _)⟩
section
variable {P:Program} {n:Nat} {ds:List Deferred} {E:Fr} {w w':World} {Q:Exit->Act->World->Prop} {ops:Array Oper} {rest:List Oper} {d:Nat} {dst:Option Nat} {ty:TypeId} {pos:String} {after:Array Edge} {F:Nat->Prop} {w0:World} {Γ:List Asr} {T:Tab}
theorem a5P (g o k:Nat):(⟨g,o,none⟩:Addr).add k=⟨g,o + k,none⟩:=by unfold Addr.add;split <;> simp_all
theorem b2Q (hT:TabOk P T) {t el sz eb b off m c j:Nat} {ag:Bool} {z:List Value} {x y:Operand} {i:Int} (ht:T.get t=some (.sl el sz eb ag z)) (hx:E.ev x=some (.slice (some ⟨b,off,none⟩) m c)) (hy:E.ev y=some (.int .i64 i)) (hj:(j:Int)=i) (hm:j<=m) (hc:j < c):∀ a,Has n ds a E->∀ dst,a0S P ⟨dst,.slice t x (some y) none none,ty,pos,after,none⟩ a (.slice (some ⟨b,off + j * sz,none⟩) (m - j) (c - j)):=fun a ha _ w=>by
 obtain ⟨ji,zv,hu,hinfo,_,hs,_⟩:=hT.sl ht;subst hj;have hb:(Instr.sliceBounds true m c (some (.int .i64 (j:Int))) none none).run P w=.ok (j,m,c) w:=by
  simp [Instr.sliceBounds,run_sliceBound,hm]
 simp only [execOp,ha.ev hx,ha.ev hy,xh1,xj6];simp [Instr.sliceAt,Instr.slice,run_underlying hu,hb,sizeOf,typeInfo,hinfo,hs,show ¬ c=j by omega,a5P]
theorem b30 (hT:TabOk P T) {t el sz eb m c j:Nat} {p:Option Addr} {ag:Bool} {z:List Value} {x y:Operand} {i:Int} (ht:T.get t=some (.sl el sz eb ag z)) (hx:E.ev x=some (.slice p m c)) (hy:E.ev y=some (.int .i64 i)) (hj:(j:Int)=i) (hm:j<=c):∀ a,Has n ds a E->∀ dst,a0S P ⟨dst,.slice t x none (some y) none,ty,pos,after,none⟩ a (.slice p j c):=fun a ha _ w=>by
 obtain ⟨ji,zv,hu,hinfo,_,hs,_⟩:=hT.sl ht;subst hj;have hb:(Instr.sliceBounds true m c none (some (.int .i64 (j:Int))) none).run P w=.ok (0,j,c) w:=by
  simp [Instr.sliceBounds,run_sliceBound,hm]
 simp only [execOp,ha.ev hx,ha.ev hy,xh1,xj6];simp [Instr.sliceAt,Instr.slice,run_underlying hu,hb,sizeOf,typeInfo,hinfo,hs];intro _
 cases p with
 |none=>rfl
 |some a=>simp [Addr.add]
theorem b3N (hT:TabOk P T) {t el sz eb b off m c j:Nat} {ag:Bool} {z:List Value} {x y:Operand} {i:Int} (ht:T.get t=some (.sl el sz eb ag z)) (hx:E.ev x=some (.slice (some ⟨b,off,none⟩) m c)) (hy:E.ev y=some (.int .i64 i)) (hj:(j:Int)=i) (hm:j<=m) (hc:j < c) (hd:Nat.blt d n=true) (k':WL P ops Q rest n ds ((d,.slice (some ⟨b,off + j * sz,none⟩) (m - j) (c - j))::E) w):WL P ops Q (⟨some d,.slice t x (some y) none none,ty,pos,after,none⟩::rest) n ds E w:=a0V (fun a ha=>b2Q hT ht hx hy hj hm hc a ha _) hd k'
theorem b3E (hT:TabOk P T) {t el sz eb m c j:Nat} {p:Option Addr} {ag:Bool} {z:List Value} {x y:Operand} {i:Int} (ht:T.get t=some (.sl el sz eb ag z)) (hx:E.ev x=some (.slice p m c)) (hy:E.ev y=some (.int .i64 i)) (hj:(j:Int)=i) (hm:j<=c) (hd:Nat.blt d n=true) (k':WL P ops Q rest n ds ((d,.slice p j c)::E) w):WL P ops Q (⟨some d,.slice t x none (some y) none,ty,pos,after,none⟩::rest) n ds E w:=a0V (fun a ha=>b30 hT ht hx hy hj hm a ha _) hd k'
theorem b7B (hT:TabOk P T) {t el sz eb m c:Nat} {p:Option Addr} {ag:Bool} {z:List Value} {x:Operand} (ht:T.get t=some (.sl el sz eb ag z)) (hx:E.ev x=some (.slice p m c)):∀ a,Has n ds a E->∀ dst,a0S P ⟨dst,.call { callee:=.builtin .cap,args:=#[x],argTypes:=#[t] },ty,pos,after,none⟩ a (.int .i64 (c:Nat)):=fun a ha _ w=>by
 obtain ⟨ji,zv,hu,_⟩:=hT.sl ht;have hr:(Builtin.cap_ #[t] ty #[.slice p m c]).run P w=.ok (.int .i64 (c:Nat)) w:=by
  simp [Builtin.cap_,run_underlying hu,goInt]
 simp [execOp,resolve,invoke,builtin,ha.ev hx,hr,Result.andThen]
def a1O (rows news:List (List Value)) (k:Nat):List (List Value):=rows.take k++(news++rows.drop (k + news.length))
theorem a3k {rows news:List (List Value)} {k:Nat} (hk:k<=rows.length):(a1O rows news k).length=max rows.length (k + news.length):=by
 unfold a1O;rw [xe5,xe5,xa1,xb4];omega
theorem a6L {rows:List (List Value)} {sz:Nat} (hs:∀ r ∈ rows,r.length=sz) (k:Nat):rows.flatten.take (k * sz)=(rows.take k).flatten:=by
 have h1:rows.flatten=(rows.take k).flatten++(rows.drop k).flatten:=by rw [<- xf3,xj7]
 by_cases hk:k<=rows.length
 ·have hl:(rows.take k).flatten.length=k * sz:=by
   rw [o9 (fun r hr=>hs r (xf2 hr)),xa1]
   congr 1;omega
  rw [h1,List.take_left' hl]
 ·rw [xa0 (by rw [o9 hs];exact xj8 _ (by omega)),xa0 (l:=rows) (by omega)]
theorem b0Y {rows:List (List Value)} {sz:Nat} (hs:∀ r ∈ rows,r.length=sz) (k:Nat):rows.flatten.drop (k * sz)=(rows.drop k).flatten:=by
 have h1:rows.flatten=(rows.take k).flatten++(rows.drop k).flatten:=by rw [<- xf3,xj7]
 by_cases hk:k<=rows.length
 ·have hl:(rows.take k).flatten.length=k * sz:=by
   rw [o9 (fun r hr=>hs r (xf2 hr)),xa1]
   congr 1;omega
  rw [h1,List.drop_left' hl]
 ·rw [xj9 (by rw [o9 hs];exact xj8 _ (by omega)),xj9 (l:=rows) (by omega)];rfl
theorem a5y {e sz g m cap k:Nat} {rows news:List (List Value)} (h:Asr.holds w (.row e sz (.slice (some ⟨g,0,none⟩) m cap) rows)) (hk:k<=rows.length) (hn:k + news.length<=cap) (hs:∀ r ∈ news,r.length=sz) (h1:∀ r ∈ news,r.all (·.oneCell')=true) :
  ∃ w',(storeCells ⟨g,k * sz,none⟩ news.flatten).run P w=.ok () w'/\w.grownBy w' (some g)/\Asr.holds w' (.row e sz (.slice (some ⟨g,0,none⟩) (a1O rows news k).length cap) (a1O rows news k)):=by
 obtain ⟨ho,hlen,hone⟩:=h;rcases ho.2 with ⟨he,_⟩|⟨g',cap',cur,hv,_,hg,hnc,hcm,hcs,htake⟩
 ·cases he
 cases hv
 have hsl:news.flatten.length=news.length * sz:=o9 hs;have hfit:k * sz + news.flatten.length<=cur.size:=by
  rw [hsl,hcs,<- Nat.add_mul];exact xj8 _ hn
 have hst:=run_storeCells_at P g (k * sz) e news.flatten 0 cur w hg (by simpa using hfit) (fun v hv=>by
  obtain ⟨r,hr,hur⟩:=List.mem_flatten.1 hv;exact xc6.1 (h1 r hr) v hur)
 refine ⟨_,hst,⟨rfl,rfl,rfl,by simp [World.setRow,World.heap],fun j hj hne=>?_⟩,⟨⟨o9 (fun r hr=>?_),.inr ⟨g,cap,_,rfl,xf9 _,setRow_heap w g cur _ e (0,0) hg,?_,hcm,?_,?_⟩⟩,fun r hr=>?_,fun r hr=>?_⟩⟩
 ·have:g≠j:=fun e=>hne (by rw [e]);simp [World.setRow,Array.getElem?_modify,this]
 ·unfold a1O at hr;rcases xd9.1 hr with hr|hr
  ·exact hlen r (xf2 hr)
  ·rcases xd9.1 hr with hr|hr
   ·exact hs r hr
   ·exact hlen r (xk0 hr)
 ·rw [a3k hk];omega
 ·rw [hsl] at hfit |-;simp only [xb3,xe5,xa1,xb4,xg5,xf7,hsl];omega
 ·have hcl:cur.toList.length=cap * sz:=by simpa using hcs
  have hct:cur.toList.take (k * sz)=(rows.take k).flatten:=by
   rw [<- a6L hlen,<- htake,List.take_take]
   congr 1
   exact (Nat.min_eq_left (xj8 _ hk)).symm
  have hrl:(rows.take k).flatten.length=k * sz:=by
   rw [o9 (fun r hr=>hlen r (xf2 hr)),xa1]
   congr 1;omega
  simp only [xf7,xg0];rw [hct,a3k hk,xf4];unfold a1O;rw [xf3,xf3];rw [List.take_append,xa0 (l:=(rows.take k).flatten) (by rw [hrl];exact xj8 _ (by omega)),hrl]
  congr 1
  rw [List.take_append,xa0 (l:=news.flatten) (by rw [hsl,<- xk1];exact xj8 _ (by omega)),hsl]
  congr 1
  by_cases hc:k + news.length<=rows.length
  ·rw [show max rows.length (k + news.length)=rows.length by omega,<- xk1,<- xk1,<- b0Y hlen,<- htake];rw [show k * sz + news.length * sz=(k + news.length) * sz by rw [Nat.add_mul],List.drop_take,<- xk1]
   congr 2
   omega
  ·rw [show max rows.length (k + news.length)=k + news.length by omega,xj9 (l:=rows) (by omega)];rw [<- xk1,<- xk1,show k + news.length - k - news.length=0 by omega];simp
 ·unfold a1O at hr;rcases xd9.1 hr with hr|hr
  ·exact hlen r (xf2 hr)
  ·rcases xd9.1 hr with hr|hr
   ·exact hs r hr
   ·exact hlen r (xk0 hr)
 ·unfold a1O at hr;rcases xd9.1 hr with hr|hr
  ·exact hone r (xf2 hr)
  ·rcases xd9.1 hr with hr|hr
   ·exact h1 r hr
   ·exact hone r (xk0 hr)
theorem b4z (hS:St F w0 w Γ) (hT:TabOk P T) {t e sz eb g m cap k dl dc i:Nat} {ag:Bool} {ez:List Value} {x:Operand} {rows:List (List Value)} (ht:T.get t=some (.sl e sz eb ag ez)) (hx:E.ev x=some (.slice (some ⟨g,0 + k * sz,none⟩) dl dc)) (hi:Γ[i]?=some (.row e sz (.slice (some ⟨g,0,none⟩) m cap) rows)) (hdl:0 < dl) (hk:k<=rows.length) (hc:k + dl<=cap) (h1:ez.all (·.oneCell')=true) :
  Gets P ⟨dst,.call { callee:=.builtin .clear,args:=#[x],argTypes:=#[t] },ty,pos,after,none⟩ n ds E w (fun v' w'=>St F w0 w' (Γ.set i (.row e sz (.slice (some ⟨g,0,none⟩) (a1O rows (List.replicate dl ez) k).length cap) (a1O rows (List.replicate dl ez) k)))):=by
 intro a ha K Q kk;obtain ⟨ji,zv,hu,hinfo,_,hs,_,hz,hzl,_,hsz,hs0⟩:=hT.sl ht;obtain ⟨w',hst,hg,hh⟩:=a5y (P:=P) (news:=List.replicate dl ez) (hS.at_ hi) hk (by rw [xh4];exact hc) (fun r hr=>by rw [xk2 hr,hsz]) (fun r hr=>by rw [xk2 hr];exact h1);have hzc:(Builtin.zeroCells zv.cells dl).toList=(List.replicate dl ez).flatten:=by
  have hzs:zv.cells.size=sz:=by rw [<- xg5,hzl,hsz]
  have hfl:(List.replicate dl ez).flatten.length=dl * sz:=by rw [o9 (size:=sz) (fun r hr=>by rw [xk2 hr,hsz]),xh4]
  refine xg6 fun j=>?_;unfold Builtin.zeroCells;rw [hzs];by_cases hj:j < dl * sz
  ·have hdiv:j / sz < (List.replicate dl ez).length:=by rw [xh4];exact xg7 (by rw [xg8];exact hj)
   have hmod:=Nat.mod_lt j (xg2 hs0);have h3:=a3p (rows:=List.replicate dl ez) (size:=sz) (fun r hr=>by rw [xk2 hr,hsz]) (i:=j / sz) (j:=j % sz) (xd8 hdiv) hmod;rw [show j / sz * sz + j % sz=j from by rw [xg8];exact xg9 j sz] at h3;rw [h3,List.getElem_replicate];have hml:j % sz < zv.cells.size:=by rw [hzs];exact hmod
   simp [hj,hml,<- hzl]
  ·rw [xh2 (by simp;omega),xh2 (by rw [hfl];omega)]
 rw [xa8] at hx;have hrun:(Builtin.clear_ #[t] ty #[.slice (some ⟨g,k * sz,none⟩) dl dc]).run P w=.ok (.tuple #[]) w':=by
  obtain ⟨q,rfl⟩:∃ q,dl=q + 1:=⟨dl - 1,by omega⟩;simp [Builtin.clear_,run_underlying hu,zeroValue,typeInfo,hinfo,hz,hzc,hst]
 have hex:(execOp a.eval ⟨dst,.call { callee:=.builtin .clear,args:=#[x],argTypes:=#[t] },ty,pos,after,none⟩).run P w=.ok (.value (.tuple #[])) w':=by
  simp [execOp,resolve,invoke,builtin,ha.ev hx,hrun,Result.andThen]
 unfold Oper.wp;rw [hex];exact kk _ _ (hS.upd hi hg hh (fun q hq=>xd4 hq))
theorem RoAt.drop {G:Nat->Prop} {b off sz:Nat} {rows:List (List Value)} (h:RoAt G w b off sz rows) (k:Nat):RoAt G w b (off + k * sz) sz (rows.drop k) :=
 ⟨h.lt,h.nf,fun r hr=>h.len r (xk0 hr),fun r hr=>h.one r (xk0 hr),fun i r hr j u hj=>by
  rw [xb5] at hr;have:=h.cells (k + i) r hr j u hj
  rwa [show off + k * sz + i * sz + j=off + (k + i) * sz + j by rw [Nat.add_mul];omega]⟩
theorem St.shrink (hS:St F w0 w Γ) (i:Nat) {e sz g m cap:Nat} {rows:List (List Value)} (k:Nat) (hi:Γ[i]?=some (.row e sz (.slice (some ⟨g,0,none⟩) m cap) rows)) (hk:k<=rows.length):St F w0 w (Γ.set i (.row e sz (.slice (some ⟨g,0,none⟩) k cap) (rows.take k))):=by
 refine hS.upd hi ⟨rfl,rfl,rfl,xd2 _,fun _ _ _=>rfl⟩ ?_ (fun q hq=>xd4 hq);obtain ⟨ho,hlen,hone⟩:=hS.at_ hi;rcases ho.2 with ⟨he,_⟩|⟨g',cap',cur,hv,_,hg,hnc,hcm,hcs,htake⟩
 ·cases he
 cases hv
 refine ⟨⟨o9 (fun r hr=>hlen r (xf2 hr)),.inr ⟨g,cap,cur,by rw [xa1,Nat.min_eq_left hk],xf9 _,hg,by rw [xa1];omega,hcm,hcs,?_⟩⟩,fun r hr=>hlen r (xf2 hr),fun r hr=>hone r (xf2 hr)⟩;rw [xa1,Nat.min_eq_left hk,<- a6L hlen,<- htake,List.take_take,Nat.min_eq_left (xj8 _ hk)]
end
section
variable {P:Program} {n:Nat} {ds:List Deferred} {E:Fr} {w w':World} {Q:Exit->Act->World->Prop} {ops:Array Oper} {rest:List Oper} {d:Nat} {dst:Option Nat} {ty:TypeId} {pos:String} {after:Array Edge} {F:Nat->Prop} {w0:World} {Γ:List Asr} {T:Tab}
def b3n (p:Option Addr) (m c j sz:Nat):Value:=.slice (if c=j then p else p.map fun q=>q.add (j * sz)) (m - j) (c - j)
theorem a9U (hT:TabOk P T) {t el sz eb m c j:Nat} {p:Option Addr} {ag:Bool} {z:List Value} {x y:Operand} {i:Int} (ht:T.get t=some (.sl el sz eb ag z)) (hx:E.ev x=some (.slice p m c)) (hy:E.ev y=some (.int .i64 i)) (hj:(j:Int)=i) (hm:j<=m):∀ a,Has n ds a E->∀ dst,a0S P ⟨dst,.slice t x (some y) none none,ty,pos,after,none⟩ a (b3n p m c j sz):=fun a ha _ w=>by
 obtain ⟨ji,zv,hu,hinfo,_,hs,_⟩:=hT.sl ht;subst hj;have hb:(Instr.sliceBounds true m c (some (.int .i64 (j:Int))) none none).run P w=.ok (j,m,c) w:=by
  simp [Instr.sliceBounds,run_sliceBound,hm]
 simp only [execOp,ha.ev hx,ha.ev hy,xh1,xj6];simp [Instr.sliceAt,Instr.slice,run_underlying hu,hb,sizeOf,typeInfo,hinfo,hs,b3n]
end
def enA (v:Value) (l:List En):Asr:=.row 82 3 v (l.map enC)
theorem b4I (a y:En):p9 (enC a) 0 (enC y)=enC y:=a5p (enC a) (enC y) rfl
theorem a68 {α:Type} {p:α->Bool} {l:List α} {j:Nat} {x:α} (h:l[j]?=some x):(l.take (j + 1)).filter p=(l.take j).filter p++(if p x then [x] else []):=by
 rw [o7 h,xj2]
 cases hp:p x with
 |true=>rw [xj4 hp,xe6 rfl,xk3]
 |false=>rw [xj5 (by simp [hp]),xe7 (by simp),xk3]
theorem b1J {α:Type} {p:α->Bool} {l:List α}:(a5s p l=-1/\l.any p=false)\/∃ i x,a5s p l=((i:Nat):Int)/\l[i]?=some x/\p x=true/\(l.take i).filter (fun y=>!p y)=l.take i:=by
 unfold a5s
 cases h:l.findIdx? p with
 |none=>
  left;rw [xk4] at h;refine ⟨rfl,?_⟩;rw [List.any_eq_false];intro x hx;rw [h x hx];simp
 |some i=>
  right;rw [xk5] at h;obtain ⟨h1,h2,h3⟩:=h;refine ⟨i,l[i],rfl,xd8 h1,h2,List.filter_eq_self.2 fun y hy=>?_⟩;obtain ⟨j,hj⟩:=xd6.1 hy;rw [xe9] at hj
  split at hj
  ·rename_i hji;obtain ⟨hjl,rfl⟩:=xa6.1 hj;have:=h3 j hji
   simpa using this
  ·cases hj
theorem a45 {α:Type} {p:α->Bool} {l:List α} (h:l.any p=false):l.filter (fun y=>!p y)=l:=List.filter_eq_self.2 fun y hy=>by
 rw [List.any_eq_false] at h;have:=h y hy
 simpa using this
theorem b34 {F:Nat->Prop} {w0 w:World} {Γ:List Asr} {v:Value} {l:List En} {p:En->Bool} {k:FuncId} {caps:List Value} (hS0:St F w0 w (enA v l::Γ)) (hf:∀ x ∈ l,∀ w' Γ',St (fps [enA v l]) w w' Γ'->Fn Tryz.prog k ([.agg (enC x).toArray]++caps) w' (RBf (.bool (p x)) w')) :
  Fn Tryz.prog 104 [v,.func (.func k) #[] caps.toArray] w (fun v' w'=>∃ q c,v'=.slice q (l.filter fun y=>!p y).length c/\St (fps [enA v l]) w w' [enA v' (l.filter fun y=>!p y)]):=by
 have hS:=St.startM (Δ:=[enA v l]) hS0;have bnd:=(hS.rowSl 0 rfl).bound;obtain ⟨pp,c,hpp⟩:=hS.rowSlice 0 rfl;rw [xi3] at hpp;have hidx:=fun w1 Γ1 (h:St (fps [enA v l]) w w1 Γ1) (h0:Sl nF w1 3 v (l.map enC))=>b23 (p:=p) (k:=k) (caps:=caps) h0 (fun x hx w' h2=>by
  obtain ⟨Γ2,h2⟩:=h2;exact hf x hx w' _ (h.trans h2))
 generalize fps [enA v l]=G at hS hf hidx |-;subst hpp;refine yEn Tryz.func104 Tryz.ntmps104 (by kernel_rfl) (by kernel_rfl) rfl rfl ?_;unfold enA at hS |-;rcases b1J (p:=p) (l:=l) with ⟨hi,hany⟩|⟨i,x,hi,hx,hpx,hpre⟩
 ·rw [hi] at hidx;rw [a45 hany]
  repeat' (first|(with_reducible apply d5 c9);rfl;rfl;rfl|refine yDn (by with_reducible constructor) ?_|(with_reducible apply i6);rfl;rfl|(with_reducible apply f9 hS);rfl;rfl;rfl;refine ⟨_,hidx _ _ hS (hS.rowSl 0 rfl),?_⟩;clear hS;intro w' hS)
  (refine l4 rfl ?_)
  exact ⟨_,_,rfl,hS⟩
 rw [hi] at hidx;have hil:=f7 hx;obtain ⟨g,rfl⟩:=hS.rowSome 0 rfl (by omega);have hcc:l.length<=c:=by
  rcases hS.rowForm 0 rfl with ⟨h1,-⟩|⟨g',c',h1,h2,-⟩
  ·cases h1
  ·injection h1 with _ _ h3;subst h3;rw [xi3] at h2;exact h2
 repeat' (first|(with_reducible apply d5 c9);rfl;rfl;rfl|(with_reducible apply j7);rfl;rfl;omega;omega;rfl|refine yDn (by with_reducible constructor) ?_|(with_reducible apply i9);rfl;rfl|(with_reducible apply f9 hS);rfl;rfl;rfl;refine ⟨_,hidx _ _ hS (hS.rowSl 0 rfl),?_⟩;clear hS;intro w' hS)
 have hst0:(l.take (i + 1)).filter (fun y=>!p y)=l.take i:=by
  rw [a68 hx,hpre,hpx];simp
 refine n9 (X:=Nat×Nat×List En) (fun x=>[(5,.int .i64 (x.1:Nat)),(6,.int .i64 (x.2.1:Nat))]) [0,1] rfl (fun x=>[.row 82 3 (.slice (some ⟨g,0,none⟩) l.length c) (x.2.2.map enC)]) (fun x=>x.1 < x.2.1/\x.2.1<=l.length/\x.2.2.length=l.length/\x.2.2.take x.1=(l.take x.2.1).filter (fun y=>!p y)/\x.2.2.drop x.2.1=l.drop x.2.1) (fun x=>l.length - x.2.1) (i,i + 1,l) (by exact Fr.sub_of rfl) ⟨Nat.lt_succ_self i,hil,rfl,hst0.symm,rfl⟩ hS ?_;clear hS hidx hst0 hi hx hpx hpre hil;rintro ⟨i,j,L⟩ w1 ⟨hij,hjl,hL,htk,hdr⟩ hS;dsimp only [List.cons_append,List.nil_append] at hij hjl hL htk hdr hS |-;by_cases hlt:j < l.length
 ·obtain ⟨y,hy⟩:=j4 (l:=l) (i:=j) (by omega);have hyL:L[j]?=some y:=by
   have h1:(L.drop j)[0]?=(l.drop j)[0]?:=by rw [hdr]
   rw [xb5,xb5] at h1;rw [xf7] at h1;rw [h1,hy]
  have hrow:=f8 (f:=enC) hyL;have hcall:=fun w' Γ' h=>hf y (xc8 hy) w' Γ' h;have hstep:=a68 (p:=fun y=>!p y) hy
  cases hpy:p y with
  |true=>
   rw [hpy] at hcall hstep;unfold enC at hcall;unfold enC at hrow
   repeat' (first|(with_reducible apply d5 c9);rfl;rfl;rfl|(with_reducible apply d6);rfl;(apply Ld.st c9;rfl;(first|exact hS.blkR 0 rfl|exact hS.rowR 0 rfl (by assumption));rfl);rfl|(with_reducible apply m8 c9);rfl;rfl;rfl;rfl;omega;rfl|(with_reducible apply j7);rfl;rfl;omega;omega;rfl|refine yDn (by with_reducible constructor) ?_|(with_reducible apply i9);rfl;rfl|(with_reducible apply f5 hS c9);rfl;rfl;rfl;clear hS;intro g w' hS|(with_reducible apply d7 hS c9 (i:=0));(iterate 8 rfl);exact (rfl:_=[_,_,_]);clear hS;intro w' hS;simp only [List.set] at hS|(with_reducible apply d8);rfl;all_goals (intro hb hp;try (exfalso;omega))|(with_reducible apply f9 hS);rfl;rfl;rfl;refine ⟨_,hcall _ _ hS,?_⟩;clear hS;intro w' hS)
   refine i5 (i,j + 1,L) (by exact Fr.sub_of rfl) ⟨by show i < j + 1;omega,by show j + 1<=l.length;omega,hL,?_,?_⟩ hS.drop (by show l.length - (j + 1) < l.length - j;omega)
   ·show L.take i=_;rw [hstep,htk];simp
   ·show L.drop (j + 1)=l.drop (j + 1);rw [<- List.drop_drop,<- List.drop_drop,hdr]
  |false=>
   rw [hpy] at hcall hstep;unfold enC at hcall;have hrow2:(L.map enC)[i]?=some (enC ((L[i]?).getD y)):=by
    obtain ⟨z,hz⟩:=j4 (l:=L) (i:=i) (by omega);rw [hz];exact f8 (f:=enC) hz
   unfold enC at hrow
   repeat' (first|(with_reducible apply d5 c9);rfl;rfl;rfl|(with_reducible apply d6);rfl;(apply Ld.st c9;rfl;(first|exact hS.blkR 0 rfl|exact hS.rowR 0 rfl (by assumption));rfl);rfl|(with_reducible apply m8 c9);rfl;rfl;rfl;rfl;omega;rfl|(with_reducible apply j7);rfl;rfl;omega;omega;rfl|refine yDn (by with_reducible constructor) ?_|(with_reducible apply i6);rfl;rfl|(with_reducible apply f5 hS c9);rfl;rfl;rfl;clear hS;intro g w' hS|(with_reducible apply d7 hS c9 (i:=0));(iterate 8 rfl);exact (rfl:_=[_,_,_]);clear hS;intro w' hS;simp only [List.set] at hS|(with_reducible apply d8);rfl;all_goals (intro hb hp;try (exfalso;omega))|(with_reducible apply f9 hS);rfl;rfl;rfl;refine ⟨_,hcall _ _ hS,?_⟩;clear hS;intro w' hS|(with_reducible apply a2t hS c9 (i:=1));(iterate 4 rfl);assumption;(iterate 5 rfl);intro w' hS';simp only [List.set] at hS';clear hS;have hS:=hS';clear hS')
   have hrw:(L.map enC).set i (p9 (enC ((L[i]?).getD y)) 0 [.int .i64 y.page,.int .i64 y.kind,.int .i64 y.at_])=(L.set i y).map enC:=by
    rw [xk6];exact congrArg (List.set _ _) (b4I _ _)
   rw [hrw] at hS;refine i5 (i + 1,j + 1,L.set i y) (by exact Fr.sub_of rfl) ⟨by show i + 1 < j + 1;omega,by show j + 1<=l.length;omega,by show (L.set i y).length=_;rw [xa7];exact hL,?_,?_⟩ hS.drop (by show l.length - (j + 1) < l.length - j;omega)
   ·show (L.set i y).take (i + 1)=_;rw [hstep,<- htk,o7 (x:=y) (by rw [xd7];simp;omega),List.take_set_of_le (xd2 _)];rfl
   ·show (L.set i y).drop (j + 1)=l.drop (j + 1);rw [List.drop_set_of_lt (by omega),<- List.drop_drop,<- List.drop_drop,hdr]
 ·obtain rfl:j=l.length:=by omega
  repeat' (first|(with_reducible apply d5 c9);rfl;rfl;rfl|refine yDn (by with_reducible constructor) ?_|(with_reducible apply d8);rfl;all_goals (intro hb hp;try (exfalso;omega))|(with_reducible apply b3N c9 (j:=i));rfl;rfl;rfl;rfl;omega;omega;rfl)
  refine a7p (b4z hS c9 (i:=0) (k:=i) rfl rfl rfl (by omega) (by rw [xi3];omega) (by omega) rfl) ?_;intro _ w2 hS';simp only [List.set] at hS';clear hS;have hS:=hS';clear hS';rw [show (a1O (L.map enC) (List.replicate (l.length - i) [Value.int .i64 0,Value.int .i64 0,Value.int .i64 0]) i).length=l.length by rw [a3k (by rw [xi3];omega),xi3,xh4];omega] at hS
  repeat' (first|(with_reducible apply d5 c9);rfl;rfl;rfl|refine yDn (by with_reducible constructor) ?_|(with_reducible apply b3E c9 (j:=i));rfl;rfl;rfl;rfl;omega;rfl)
  (refine l4 rfl ?_)
  have hsh:=hS.shrink 0 i rfl (by rw [a3k (by rw [xi3];omega),xi3];omega);rw [xg1] at htk;have hfl:(l.filter fun y=>!p y).length=i:=by rw [<- htk,xa1];omega
  refine ⟨some ⟨g,0,none⟩,c,by rw [hfl],?_⟩;simp only [List.set] at hsh;have hov:(a1O (L.map enC) (List.replicate (l.length - i) [Value.int .i64 0,Value.int .i64 0,Value.int .i64 0]) i).take i=(l.filter fun y=>!p y).map enC:=by
   unfold a1O;rw [List.take_left' (by rw [xa1,xi3];omega),<- List.map_take,htk]
  rw [hov] at hsh;exact hsh
theorem a5Y {α:Type} {f:α->List Value} {l:List α} {w:World} {v:Value} (hL:Sl nF w 4 v (l.map f)) (hl:l.length<=100000):Fn Tryz.prog 99 [v] w (fun v' w'=>∃ q c,v'=.slice q l.length c/\St nF w w' [.row 84 4 v' (l.map f)]):=by
 obtain ⟨pp,c,rfl⟩:=hL.len;refine yEn Tryz.func99 Tryz.ntmps99 (by kernel_rfl) (by kernel_rfl) rfl rfl ?_;have hS:=St.start w
 cases pp with
 |none=>
  have h0:l.map f=[]:=by
   rcases hL with ⟨p,c',h1,h2⟩|⟨b,off,cap,h1,-⟩
   ·exact h2
   ·cases h1
  have h1:l.length=0:=by simpa using h0
  repeat' (first|(with_reducible apply d5 c9);rfl;rfl;rfl|refine yDn (by with_reducible constructor) ?_|(with_reducible apply i6);rfl;rfl|(with_reducible apply a1t c9);(iterate 4 rfl))
  (refine l4 rfl ?_)
  refine ⟨none,0,by rw [h1],?_⟩;rw [h0];exact (hS.sub (xi4 _)).addNil _ _
 |some p=>
  repeat' (first|(with_reducible apply d5 c9);rfl;rfl;rfl|refine yDn (by with_reducible constructor) ?_|(with_reducible apply i9);rfl;rfl|(with_reducible apply a0G hS c9);(iterate 7 rfl);clear hS;intro g w' hS|(with_reducible apply a1t c9);(iterate 4 rfl)|(with_reducible apply a0A hS c9 0);(iterate 4 rfl);exact (hL.now hS);(simp only [xi3,xb0,xa2,xe5];omega);rfl;intro p' cap' w' hS';simp only [List.set] at hS';clear hS;have hS:=hS';clear hS')
  (refine l4 rfl ?_)
  refine ⟨p',cap',by rw [xa2,xa8,xi3],?_⟩;rw [List.nil_append] at hS;exact hS.sub (by repeat ((exact xk7 _)))
theorem a3G {α:Type} {f:α->List Value} {l:List α} {w:World} {v:Value} (hL:Sl nF w 2 v (l.map f)) (hl:l.length<=100000):Fn Tryz.prog 100 [v] w (fun v' w'=>∃ q c,v'=.slice q l.length c/\St nF w w' [.row 88 2 v' (l.map f)]):=by
 obtain ⟨pp,c,rfl⟩:=hL.len;refine yEn Tryz.func100 Tryz.ntmps100 (by kernel_rfl) (by kernel_rfl) rfl rfl ?_;have hS:=St.start w
 cases pp with
 |none=>
  have h0:l.map f=[]:=by
   rcases hL with ⟨p,c',h1,h2⟩|⟨b,off,cap,h1,-⟩
   ·exact h2
   ·cases h1
  have h1:l.length=0:=by simpa using h0
  repeat' (first|(with_reducible apply d5 c9);rfl;rfl;rfl|refine yDn (by with_reducible constructor) ?_|(with_reducible apply i6);rfl;rfl|(with_reducible apply a1t c9);(iterate 4 rfl))
  (refine l4 rfl ?_)
  refine ⟨none,0,by rw [h1],?_⟩;rw [h0];exact (hS.sub (xi4 _)).addNil _ _
 |some p=>
  repeat' (first|(with_reducible apply d5 c9);rfl;rfl;rfl|refine yDn (by with_reducible constructor) ?_|(with_reducible apply i9);rfl;rfl|(with_reducible apply a0G hS c9);(iterate 7 rfl);clear hS;intro g w' hS|(with_reducible apply a1t c9);(iterate 4 rfl)|(with_reducible apply a0A hS c9 0);(iterate 4 rfl);exact (hL.now hS);(simp only [xi3,xb0,xa2,xe5];omega);rfl;intro p' cap' w' hS';simp only [List.set] at hS';clear hS;have hS:=hS';clear hS')
  (refine l4 rfl ?_)
  refine ⟨p',cap',by rw [xa2,xa8,xi3],?_⟩;rw [List.nil_append] at hS;exact hS.sub (by repeat ((exact xk7 _)))
theorem a9R {α:Type} {f:α->List Value} {l:List α} {w:World} {v:Value} (hL:Sl nF w 2 v (l.map f)) (hl:l.length<=100000):Fn Tryz.prog 101 [v] w (fun v' w'=>∃ q c,v'=.slice q l.length c/\St nF w w' [.row 156 2 v' (l.map f)]):=by
 obtain ⟨pp,c,rfl⟩:=hL.len;refine yEn Tryz.func101 Tryz.ntmps101 (by kernel_rfl) (by kernel_rfl) rfl rfl ?_;have hS:=St.start w
 cases pp with
 |none=>
  have h0:l.map f=[]:=by
   rcases hL with ⟨p,c',h1,h2⟩|⟨b,off,cap,h1,-⟩
   ·exact h2
   ·cases h1
  have h1:l.length=0:=by simpa using h0
  repeat' (first|(with_reducible apply d5 c9);rfl;rfl;rfl|refine yDn (by with_reducible constructor) ?_|(with_reducible apply i6);rfl;rfl|(with_reducible apply a1t c9);(iterate 4 rfl))
  (refine l4 rfl ?_)
  refine ⟨none,0,by rw [h1],?_⟩;rw [h0];exact (hS.sub (xi4 _)).addNil _ _
 |some p=>
  repeat' (first|(with_reducible apply d5 c9);rfl;rfl;rfl|refine yDn (by with_reducible constructor) ?_|(with_reducible apply i9);rfl;rfl|(with_reducible apply a0G hS c9);(iterate 7 rfl);clear hS;intro g w' hS|(with_reducible apply a1t c9);(iterate 4 rfl)|(with_reducible apply a0A hS c9 0);(iterate 4 rfl);exact (hL.now hS);(simp only [xi3,xb0,xa2,xe5];omega);rfl;intro p' cap' w' hS';simp only [List.set] at hS';clear hS;have hS:=hS';clear hS')
  (refine l4 rfl ?_)
  refine ⟨p',cap',by rw [xa2,xa8,xi3],?_⟩;rw [List.nil_append] at hS;exact hS.sub (by repeat ((exact xk7 _)))
theorem a9n {α:Type} {f:α->List Value} {l:List α} {w:World} {v:Value} (hL:Sl nF w 4 v (l.map f)) (hl:l.length<=100000):Fn Tryz.prog 91 [v] w (fun v' w'=>∃ q c,v'=.slice q l.length c/\St nF w w' [.row 136 4 v' (l.map f)]):=by
 obtain ⟨pp,c,rfl⟩:=hL.len;refine yEn Tryz.func91 Tryz.ntmps91 (by kernel_rfl) (by kernel_rfl) rfl rfl ?_;have hS:=St.start w
 cases pp with
 |none=>
  have h0:l.map f=[]:=by
   rcases hL with ⟨p,c',h1,h2⟩|⟨b,off,cap,h1,-⟩
   ·exact h2
   ·cases h1
  have h1:l.length=0:=by simpa using h0
  repeat' (first|(with_reducible apply d5 c9);rfl;rfl;rfl|refine yDn (by with_reducible constructor) ?_|(with_reducible apply i6);rfl;rfl|(with_reducible apply a1t c9);(iterate 4 rfl))
  (refine l4 rfl ?_)
  refine ⟨none,0,by rw [h1],?_⟩;rw [h0];exact (hS.sub (xi4 _)).addNil _ _
 |some p=>
  repeat' (first|(with_reducible apply d5 c9);rfl;rfl;rfl|refine yDn (by with_reducible constructor) ?_|(with_reducible apply i9);rfl;rfl|(with_reducible apply a0G hS c9);(iterate 7 rfl);clear hS;intro g w' hS|(with_reducible apply a1t c9);(iterate 4 rfl)|(with_reducible apply a0A hS c9 0);(iterate 4 rfl);exact (hL.now hS);(simp only [xi3,xb0,xa2,xe5];omega);rfl;intro p' cap' w' hS';simp only [List.set] at hS';clear hS;have hS:=hS';clear hS')
  (refine l4 rfl ?_)
  refine ⟨p',cap',by rw [xa2,xa8,xi3],?_⟩;rw [List.nil_append] at hS;exact hS.sub (by repeat ((exact xk7 _)))
theorem a9z {α:Type} {f:α->List Value} {l:List α} {w:World} {v:Value} (hL:Sl nF w 3 v (l.map f)) (hl:l.length<=100000):Fn Tryz.prog 102 [v] w (fun v' w'=>∃ q c,v'=.slice q l.length c/\St nF w w' [.row 82 3 v' (l.map f)]):=by
 obtain ⟨pp,c,rfl⟩:=hL.len;refine yEn Tryz.func102 Tryz.ntmps102 (by kernel_rfl) (by kernel_rfl) rfl rfl ?_;have hS:=St.start w
 cases pp with
 |none=>
  have h0:l.map f=[]:=by
   rcases hL with ⟨p,c',h1,h2⟩|⟨b,off,cap,h1,-⟩
   ·exact h2
   ·cases h1
  have h1:l.length=0:=by simpa using h0
  repeat' (first|(with_reducible apply d5 c9);rfl;rfl;rfl|refine yDn (by with_reducible constructor) ?_|(with_reducible apply i6);rfl;rfl|(with_reducible apply a1t c9);(iterate 4 rfl))
  (refine l4 rfl ?_)
  refine ⟨none,0,by rw [h1],?_⟩;rw [h0];exact (hS.sub (xi4 _)).addNil _ _
 |some p=>
  repeat' (first|(with_reducible apply d5 c9);rfl;rfl;rfl|refine yDn (by with_reducible constructor) ?_|(with_reducible apply i9);rfl;rfl|(with_reducible apply a0G hS c9);(iterate 7 rfl);clear hS;intro g w' hS|(with_reducible apply a1t c9);(iterate 4 rfl)|(with_reducible apply a0A hS c9 0);(iterate 4 rfl);exact (hL.now hS);(simp only [xi3,xb0,xa2,xe5];omega);rfl;intro p' cap' w' hS';simp only [List.set] at hS';clear hS;have hS:=hS';clear hS')
  (refine l4 rfl ?_)
  refine ⟨p',cap',by rw [xa2,xa8,xi3],?_⟩;rw [List.nil_append] at hS;exact hS.sub (by repeat ((exact xk7 _)))
end Go.Proofs.YtejnpppejalhfacGreat
