/- Texts that the proof stands on, one behind the other: Ke52, Ke50, Ke51, Ke53, Cx1. -/
import Derived.Test.YtejnpppejalhfacGreatPKernelMaps12
set_option linter.unusedVariables false
set_option linter.unusedSimpArgs false
namespace Go.Proofs.YtejnpppejalhfacGreat
set_option maxRecDepth 100000
set_option maxHeartbeats 8000000
open Go.RowKit Go.Sort
theorem b2K {w:World} {k:KV} (hK:KerV w k) (space page pages prot:Int):Fn Tryz.prog 19 [.agg (kvC k).toArray,.int .i64 space,.int .i64 page,.int .i64 pages,.int .i64 prot] w (fun v w'=>∃ k',v=.tuple #[.agg (kvC k').toArray,.int .i64 (arE k.K space fun A=>a0s A page pages prot)]/\k'.K=arR k.K space (fun A=>a0s A page pages prot)/\Came w w' k'):=by
 have hli:=fun w1 (h:KerV w1 k)=>a6b h space;have hown:=fun w1 (h:KerV w1 k) (hr:Right k.K)=>a7V h (b0e hr);have hroo:=fun w1 (h:KerV w1 k) hc h4=>b0g h hc h4;obtain ⟨RE,hRE⟩:∃ e,e=arE k.K space (fun A=>a0s A page pages prot):=⟨_,rfl⟩;unfold arR;rw [<- hRE];unfold arE at hRE;obtain ⟨sh,fr,sl,sps,hand,vsh,vfr,vsl,vsp⟩:=k;have hK0:=hK;obtain ⟨k1,k2,k3,k4,k5⟩:=hK;dsimp only at k1 k2 k3 k4 k5;obtain ⟨p1,c1,rfl⟩:=k1.sl.len;obtain ⟨p2,c2,rfl⟩:=k2.len;obtain ⟨p3,c3,rfl⟩:=k3.len;obtain ⟨p4,c4,rfl⟩:=k4.len;have hlS:(KV.K ⟨sh,fr,sl,sps,hand,.slice p1 sh.length c1,.slice p2 fr.length c2,.slice p3 sl.length c3,.slice p4 sps.length c4⟩).spaces.length=sps.length:=xi3 _;have hlL:(KV.K ⟨sh,fr,sl,sps,hand,.slice p1 sh.length c1,.slice p2 fr.length c2,.slice p3 sl.length c3,.slice p4 sps.length c4⟩).slots.length=sl.length:=rfl;have hlM:(KV.K ⟨sh,fr,sl,sps,hand,.slice p1 sh.length c1,.slice p2 fr.length c2,.slice p3 sl.length c3,.slice p4 sps.length c4⟩).spaces=sps.map (·.s):=rfl;have hlX:∀ {i:Nat} {x:Sp},sps[i]?=some x->(KV.K ⟨sh,fr,sl,sps,hand,.slice p1 sh.length c1,.slice p2 fr.length c2,.slice p3 sl.length c3,.slice p4 sps.length c4⟩).spaces[i]?=some x.s:=fun h=>a1e h;generalize hKK:KV.K ⟨sh,fr,sl,sps,hand,.slice p1 sh.length c1,.slice p2 fr.length c2,.slice p3 sl.length c3,.slice p4 sps.length c4⟩=K at hli hown hRE hlS hlL hlM hlX |-;rw [hlL] at hRE;unfold kvC at hli hown hroo |-;dsimp only at hli hown hroo |-;have hno:∀ {w1 Γ1},St nF w w1 Γ1->∀ {e:Int} {T:Ker},e≠0->∃ k':KV,Value.tuple #[.agg #[.slice none 0 0,.slice none 0 0,.slice none 0 0,.slice none 0 0,.int .i64 0],.int .i64 e]=.tuple #[.agg [k'.vsh,k'.vfr,k'.vsl,k'.vsp,.int .i64 k'.hand].toArray,.int .i64 e]/\k'.K=(if e=0 then T else b2I)/\Came w w1 k':=by
  intro w1 Γ1 h e T he;exact ⟨kv0,rfl,by rw [xe7 he];rfl,xd4 ⟨rfl,h.sub (xi4 _)⟩⟩
 refine yEn Tryz.func19 Tryz.ntmps19 (by kernel_rfl) (by kernel_rfl) rfl rfl ?_;have hS:=St.start w;by_cases he:a0c K space=0
 ·obtain ⟨hr,sp,rfl,hspl,hlv⟩:=a1V he;rw [xe6 he,xh3] at hRE;rw [xh3];have hd:decide (a0c K (sp:Int)=0)=true:=xi8 he;rw [he] at hli;obtain ⟨x,hx⟩:∃ x,sps[sp]?=some x:=j4 (by omega);have hxm:=xc8 hx;have hsc0:=hlX hx;obtain ⟨hsc,hel⟩:=a1F hr x.s (xc8 hsc0);have hxA:m6 K sp=x.s.areas:=by unfold m6;rw [z7 hsc0]
  have hra:=a6k hsc0 (a0s x.s.areas page pages prot).1;rw [hxA] at hRE |-;dsimp only at hRE
  try dsimp only
  have hsp4:=hr.cnt;have hspl2:=f7 hx;obtain ⟨pa,ca,hva⟩:=(k5 x hxm).ar.len;obtain ⟨bs,os,hvp⟩:∃ b o,p4=some ⟨b,o,none⟩:=by
   obtain ⟨b,o,h,-⟩:=k4.at_ (i:=sp) (by omega);exact ⟨b,o,h⟩
  subst hvp;have hrowS:=f8 (f:=spC) hx;unfold spC at hrowS;rw [hva] at hrowS;have hspV:∀ {w1 Γ1},St nF w w1 Γ1->Sl nF w1 3 (.slice (some ⟨bs,os,none⟩) sps.length c4) (sps.map fun q=>[.bool q.s.live,q.va,q.ve]):=fun h=>(hK0.now h).sp;have hmi:=fun w1 Γ1 (h:St nF w w1 Γ1)=>b2w (w:=w1) (L:=x.s.areas) page pages prot (by have:=((k5 x hxm).ar.now h);rw [hva] at this;exact this);by_cases h2:(a0s x.s.areas page pages prot).2=0;rotate_left
  ·rw [xe7 h2] at hRE;have hd2:decide ((a0s x.s.areas page pages prot).2=0)=false:=xi7 h2;rw [hRE];generalize a0s x.s.areas page pages prot=RR at hmi h2 hd2 |-
   repeat' (first|(with_reducible apply d5 c9);rfl;rfl;rfl|(with_reducible apply d6);rfl;(first|apply Ld.sl c9;rfl;exact hS.blkC 1 rfl rfl|apply Ld.st c9;rfl;exact hS.blkR 1 rfl;rfl);rfl|(with_reducible apply m8 c9);rfl;rfl;rfl;rfl;omega;rfl|refine yDn (by with_reducible constructor) ?_|(with_reducible apply i6);rfl;rfl|(with_reducible apply j6 hS);rfl;rfl;rfl;clear hS;intro g w' hS|(with_reducible apply f5 hS c9);rfl;rfl;rfl;clear hS;intro g w' hS|(with_reducible apply f9 hS);rfl;rfl;rfl;refine ⟨_,hli _ (hK0.now hS),?_⟩;clear hS;intro w' hS|(with_reducible apply a0K c9);rfl;rfl;rfl;refine ⟨_,(hspV hS).cel hrowS rfl,?_⟩|(with_reducible apply l9);rfl;rfl;rfl;refine ⟨_,hmi _ _ hS,?_⟩;rintro _ w' ⟨u,rfl,hS'⟩;replace hS:=hS.transA hS';simp only [t5] at hS;clear hS')
   (focus ((with_reducible apply d9 _ _ _ (by kernel_rfl) (by kernel_rfl) hS);(repeat' ((first|(with_reducible apply g8 c9);rfl;rfl|(first|(with_reducible apply a1I);(iterate 4 rfl);assumption;rfl|(with_reducible apply o5);rfl;assumption;rfl;rfl))));all_goals ((with_reducible apply k8);intro w' hS';clear hS;have hS:=hS';clear hS')))
   repeat' (first|(with_reducible apply d5 c9);rfl;rfl;rfl|(with_reducible apply v8 c9);rfl;rfl;exact (rfl:_=some [_,_,_,_,_]);rfl|refine yDn (by with_reducible constructor) ?_|(with_reducible apply i9);rfl;rfl|(with_reducible apply d7 hS c9 (i:=1));(iterate 8 rfl);exact (rfl:_=[_,_,_,_,_]);clear hS;intro w' hS;simp only [List.set] at hS|(with_reducible apply a0j);rfl;all_goals (intro hb hp;try (exfalso;omega)))
   (apply a0i;repeat (first|exact ResL.nil|apply ResL.tmp;rfl|apply ResL.cell;rfl;(apply Ld.st c9;rfl;exact hS.blkR 1 rfl;rfl)))
   exact hno hS h2
  rw [xe6 h2] at hRE;obtain ⟨hck,hsum,hpg1,hpg2⟩:=b0n h2;rw [hra,hsum,show o8 K.spaces - k7 x.s.areas + (k7 x.s.areas + pages)=o8 K.spaces + pages by omega] at hRE;have hcA:∀ p ∈ sps,g6 p.s.areas=0:=fun p hp=>(a1F hr p.s (by rw [hlM];exact xh6.2 ⟨p,hp,rfl⟩)).1.ar;have hroo:=fun w1 (h:KerV w1 _)=>hroo w1 h hcA (by omega);rw [<- hlM] at hroo;have hR0:0<=o8 K.spaces:=a98 fun s hs=>(a3j (hr.spaces s hs)).2.1;have hR1:o8 K.spaces<=512:=by have:=hr.room;omega
  generalize hRm:o8 K.spaces=Rm at hroo hRE hR0 hR1;by_cases h5:(sl.length:Int) < Rm + pages
  ·rw [xe6 h5] at hRE;have hd2:decide ((sl.length:Int) < Rm + pages)=true:=xi8 h5;rw [hRE];unfold a3u at hmi;rw [h2] at hmi
   repeat' (first|(with_reducible apply d5 c9);rfl;rfl;rfl|(with_reducible apply d6);rfl;(first|apply Ld.sl c9;rfl;exact hS.blkC 1 rfl rfl|apply Ld.st c9;rfl;exact hS.blkR 1 rfl;rfl);rfl|(with_reducible apply m8 c9);rfl;rfl;rfl;rfl;omega;rfl|refine yDn (by with_reducible constructor) ?_|(with_reducible apply i6);rfl;rfl|(with_reducible apply j6 hS);rfl;rfl;rfl;clear hS;intro g w' hS|(with_reducible apply f5 hS c9);rfl;rfl;rfl;clear hS;intro g w' hS|(with_reducible apply f9 hS);rfl;rfl;rfl;refine ⟨_,hli _ (hK0.now hS),?_⟩;clear hS;intro w' hS|(with_reducible apply a0K c9);rfl;rfl;rfl;refine ⟨_,(hspV hS).cel hrowS rfl,?_⟩|(with_reducible apply l9);rfl;rfl;rfl;refine ⟨_,hmi _ _ hS,?_⟩;rintro _ w' ⟨u,rfl,hS'⟩;replace hS:=hS.transA hS';simp only [t5] at hS;clear hS')
   (focus ((with_reducible apply d9 _ _ _ (by kernel_rfl) (by kernel_rfl) hS);(repeat' (first|(first|(with_reducible apply b0c);rfl;rfl;omega;omega;rfl|(with_reducible apply g8 c9);rfl;rfl|(with_reducible apply i7);rfl;(intro wd hd;replace hd:St _ _ wd _:=hd;(first|apply Ld.sl c9;rfl;exact hd.blkC 2 rfl rfl|apply Ld.st c9;rfl;exact hd.blkR 2 rfl;rfl));rfl|(first|(with_reducible apply y7);(iterate 4 rfl);rfl|(with_reducible apply q7);rfl;rfl;rfl;rfl))|(with_reducible apply s5);rfl;rfl;rfl;refine ⟨_,fun wd hd=>hroo _ (hK0.now hd),?_⟩));all_goals ((with_reducible apply k8);intro w' hS';clear hS;have hS:=hS';clear hS')))
   repeat' (first|(with_reducible apply d5 c9);rfl;rfl;rfl|(with_reducible apply v8 c9);rfl;rfl;exact (rfl:_=some [_,_,_,_,_]);rfl|refine yDn (by with_reducible constructor) ?_|((with_reducible apply i6);rfl;first|rfl|assumption)|(with_reducible apply d7 hS c9 (i:=1));(iterate 8 rfl);exact (rfl:_=[_,_,_,_,_]);clear hS;intro w' hS;simp only [List.set] at hS)
   (apply a0i;repeat (first|exact ResL.nil|apply ResL.tmp;rfl|apply ResL.cell;rfl;(apply Ld.st c9;rfl;exact hS.blkR 1 rfl;rfl)))
   exact hno hS (by omega)
  rw [xe7 h5] at hRE;have hd2:decide ((sl.length:Int) < Rm + pages)=false:=xi7 h5;rw [hRE,xe6 rfl];have hK3:a1J K sp (a0s x.s.areas page pages prot).1=a2S K sp ⟨x.s.live,(a0s x.s.areas page pages prot).1,x.s.entries⟩:=by
   unfold a1J w9;rw [z7 hsc0]
  rw [hK3];clear hK3;unfold a3u at hmi;rw [h2] at hmi;generalize (a0s x.s.areas page pages prot).1=A2 at hmi |-
  repeat' (first|(with_reducible apply d5 c9);rfl;rfl;rfl|(with_reducible apply d6);rfl;(first|apply Ld.sl c9;rfl;exact hS.blkC 1 rfl rfl|apply Ld.st c9;rfl;exact hS.blkR 1 rfl;rfl);rfl|(with_reducible apply m8 c9);rfl;rfl;rfl;rfl;omega;rfl|refine yDn (by with_reducible constructor) ?_|(with_reducible apply i6);rfl;rfl|(with_reducible apply j6 hS);rfl;rfl;rfl;clear hS;intro g w' hS|(with_reducible apply f5 hS c9);rfl;rfl;rfl;clear hS;intro g w' hS|(with_reducible apply f9 hS);rfl;rfl;rfl;refine ⟨_,hli _ (hK0.now hS),?_⟩;clear hS;intro w' hS|(with_reducible apply a0K c9);rfl;rfl;rfl;refine ⟨_,(hspV hS).cel hrowS rfl,?_⟩|(with_reducible apply l9);rfl;rfl;rfl;refine ⟨_,hmi _ _ hS,?_⟩;rintro _ w' ⟨u,rfl,hS'⟩;replace hS:=hS.transA hS';simp only [t5] at hS;clear hS')
  (focus ((with_reducible apply d9 _ _ _ (by kernel_rfl) (by kernel_rfl) hS);(repeat' (first|(first|(with_reducible apply b0c);rfl;rfl;omega;omega;rfl|(with_reducible apply g8 c9);rfl;rfl|(with_reducible apply i7);rfl;(intro wd hd;replace hd:St _ _ wd _:=hd;(first|apply Ld.sl c9;rfl;exact hd.blkC 2 rfl rfl|apply Ld.st c9;rfl;exact hd.blkR 2 rfl;rfl));rfl|(first|(with_reducible apply y7);(iterate 4 rfl);rfl|(with_reducible apply q7);rfl;rfl;rfl;rfl))|(with_reducible apply s5);rfl;rfl;rfl;refine ⟨_,fun wd hd=>hroo _ (hK0.now hd),?_⟩));all_goals ((with_reducible apply k8);intro w' hS';clear hS;have hS:=hS';clear hS')))
  obtain ⟨pu,cu,rfl⟩:=hS.rowSlice 0 rfl;rw [xi3] at hS |-
  repeat' (first|(with_reducible apply d5 c9);rfl;rfl;rfl|(with_reducible apply d6);rfl;(apply Ld.st c9;rfl;exact hS.blkR 2 rfl;rfl);rfl|refine yDn (by with_reducible constructor) ?_|first|((with_reducible apply i9);rfl;first|rfl|assumption)|(with_reducible apply l9);rfl;rfl;rfl;refine ⟨_,hown _ (hK0.now hS) hr,?_⟩;rintro _ w2 ⟨k2,rfl,hk2,h3⟩)
  replace h3:=h3.perm (a5i k2);replace hS:=hS.trans h3;clear h3 hown hli hmi;have hV2:=KerV.own hS;replace hS:=hS.perm xl8;dsimp only [List.cons_append,List.nil_append] at hS;have hsp2:k2.sp.length=sps.length:=by rw [<- hlS,<- hk2];exact (xi3 _).symm
  obtain ⟨z,hz⟩:=j4 (l:=k2.sp) (i:=sp) (by omega);have hzs:z.s=x.s:=by
   have h:=a1e hz;rw [hk2,hsc0] at h;exact (Option.some.inj h).symm
  obtain ⟨b2,o2,e2,hv4⟩:=hV2.sp.form1 hz;obtain ⟨py,cy,hya⟩:=(hV2.spv z (xc8 hz)).ar.len;obtain ⟨sh2,fr2,sl2,sp2,hand2,vsh2,vfr2,vsl2,vsp2⟩:=k2;dsimp only at hsp2 hv4 hz;subst hv4;obtain ⟨q1,d1,rfl⟩:∃ p c,vsh2=.slice p sh2.length c:=hV2.sh.sl.len;obtain ⟨q2,d2,rfl⟩:∃ p c,vfr2=.slice p fr2.length c:=hV2.fr.len;obtain ⟨q3,d3,rfl⟩:∃ p c,vsl2=.slice p sl2.length c:=hV2.sl.len;have hspl3:=f7 hz;unfold frA slA a20 a0d at hS;dsimp only [List.cons_append,List.nil_append] at hS;have hos:o2=0:=by
   obtain ⟨gg,hgg⟩:=hS.rowSome 5 rfl (xm8 (xf9 _) hspl3);injection hgg with hgg
   injection hgg
  subst hos;have hrowZ:=f8 (f:=spC) hz;unfold spC at hrowZ;rw [hya,hzs] at hrowZ;obtain ⟨y,hy⟩:∃ y:Sp,y=⟨⟨x.s.live,A2,x.s.entries⟩,.slice pu A2.length cu,z.ve⟩:=⟨_,rfl⟩;have hzy:(sp2.set sp y)[sp]?=some y:=by rw [xd7,xe6 rfl,xe6 hspl3]
  have e1:(sp2.map spC).set sp (p9 [.bool x.s.live,.slice py x.s.areas.length cy,z.ve] 1 [.slice pu A2.length cu])=(sp2.set sp y).map spC:=by rw [xk6,hy];rfl
  repeat' (first|(with_reducible apply d5 c9);rfl;rfl;rfl|(with_reducible apply d6);rfl;(first|apply Ld.sl c9;rfl;exact hS.blkC 0 rfl rfl|apply Ld.st c9;rfl;exact hS.blkR 0 rfl;rfl);rfl|(with_reducible apply m8 c9);rfl;rfl;rfl;rfl;omega;rfl|refine yDn (by with_reducible constructor) ?_|(with_reducible apply f5 hS c9);rfl;rfl;rfl;clear hS;intro g w' hS|(with_reducible apply d7 hS c9 (i:=0));(iterate 8 rfl);exact (rfl:_=[_,_,_,_,_]);clear hS;intro w' hS;simp only [List.set] at hS|(with_reducible apply d7 hS c9 (i:=2));(iterate 8 rfl);exact (rfl:_=[_,_,_,_,_]);clear hS;intro w' hS;simp only [List.set] at hS|(with_reducible apply t3 hS c9 (i:=6));(iterate 4 rfl);assumption;(iterate 5 rfl);intro w' hS';simp only [List.set] at hS';clear hS;have hS:=hS';clear hS')
  rw [e1] at hS
  repeat' (fail)
  (apply a0i;repeat (first|exact ResL.nil|apply ResL.tmp;rfl|apply ResL.cell;rfl;(apply Ld.st c9;rfl;exact hS.blkR 2 rfl;rfl)))
  have hA:=a0l a17 hz;have hB:=a0l a17 hzy;rw [a0Z] at hB;have hyA:a17 y=.row 136 4 (.slice pu A2.length cu) (A2.map arC):=by rw [hy];rfl
  have hE:(sp2.set sp y).map x9=sp2.map x9:=a4a hz (by rw [hy];unfold x9;rw [hzs]);rw [hyA] at hB;replace hS:=(hS.drop.perm (a4e (X:=[_,_,_,_]) hA hB)).drop.drop.drop;rw [<- hE] at hS;refine ⟨⟨sh2,fr2,sl2,sp2.set sp y,hand2,.slice q1 sh2.length d1,.slice q2 fr2.length d2,.slice q3 sl2.length d3,.slice (some ⟨b2,0,none⟩) sp2.length e2⟩,rfl,?_,xd1 hS⟩;rw [<- hk2,hy];unfold a2S KV.K;dsimp only;rw [xk6]
 ·have hd:decide (a0c K space=0)=false:=xi7 he;rw [xe7 he] at hRE;rw [<- hRE] at he hd hli
  repeat' (first|(with_reducible apply d5 c9);rfl;rfl;rfl|(with_reducible apply d6);rfl;(apply Ld.st c9;rfl;exact hS.blkR 1 rfl;rfl);rfl|refine yDn (by with_reducible constructor) ?_|(with_reducible apply i9);rfl;assumption|(with_reducible apply j6 hS);rfl;rfl;rfl;clear hS;intro g w' hS|(with_reducible apply f5 hS c9);rfl;rfl;rfl;clear hS;intro g w' hS|(with_reducible apply f9 hS);rfl;rfl;rfl;refine ⟨_,hli _ (hK0.now hS),?_⟩;clear hS;intro w' hS)
  (focus ((with_reducible apply d9 _ _ _ (by kernel_rfl) (by kernel_rfl) hS);(repeat' ((first|(with_reducible apply g8 c9);rfl;rfl|(first|(with_reducible apply a1I);(iterate 4 rfl);assumption;rfl|(with_reducible apply o5);rfl;assumption;rfl;rfl))));all_goals ((with_reducible apply k8);intro w' hS';clear hS;have hS:=hS';clear hS')))
  repeat' (first|(with_reducible apply d5 c9);rfl;rfl;rfl|(with_reducible apply v8 c9);rfl;rfl;exact (rfl:_=some [_,_,_,_,_]);rfl|refine yDn (by with_reducible constructor) ?_|(with_reducible apply i9);rfl;rfl|(with_reducible apply d7 hS c9 (i:=0));(iterate 8 rfl);exact (rfl:_=[_,_,_,_,_]);clear hS;intro w' hS;simp only [List.set] at hS|(with_reducible apply a0j);rfl;all_goals (intro hb hp;try (exfalso;omega)))
  (apply a0i;repeat (first|exact ResL.nil|apply ResL.tmp;rfl|apply ResL.cell;rfl;(apply Ld.st c9;rfl;exact hS.blkR 0 rfl;rfl)))
  exact hno hS he
theorem a7E {w:World} {k:KV} (hK:KerV w k) (space page pages prot:Int):Fn Tryz.prog 21 [.agg (kvC k).toArray,.int .i64 space,.int .i64 page,.int .i64 pages,.int .i64 prot] w (fun v w'=>∃ k',v=.tuple #[.agg (kvC k').toArray,.int .i64 (arE k.K space fun A=>t7 A page pages prot)]/\k'.K=arR k.K space (fun A=>t7 A page pages prot)/\Came w w' k'):=by
 have hli:=fun w1 (h:KerV w1 k)=>a6b h space;have hown:=fun w1 (h:KerV w1 k) (hr:Right k.K)=>a7V h (b0e hr);obtain ⟨RE,hRE⟩:∃ e,e=arE k.K space (fun A=>t7 A page pages prot):=⟨_,rfl⟩;unfold arR;rw [<- hRE];unfold arE at hRE;obtain ⟨sh,fr,sl,sps,hand,vsh,vfr,vsl,vsp⟩:=k;have hK0:=hK;obtain ⟨k1,k2,k3,k4,k5⟩:=hK;dsimp only at k1 k2 k3 k4 k5;obtain ⟨p1,c1,rfl⟩:=k1.sl.len;obtain ⟨p2,c2,rfl⟩:=k2.len;obtain ⟨p3,c3,rfl⟩:=k3.len;obtain ⟨p4,c4,rfl⟩:=k4.len;have hlS:(KV.K ⟨sh,fr,sl,sps,hand,.slice p1 sh.length c1,.slice p2 fr.length c2,.slice p3 sl.length c3,.slice p4 sps.length c4⟩).spaces.length=sps.length:=xi3 _;have hlL:(KV.K ⟨sh,fr,sl,sps,hand,.slice p1 sh.length c1,.slice p2 fr.length c2,.slice p3 sl.length c3,.slice p4 sps.length c4⟩).slots.length=sl.length:=rfl;have hlM:(KV.K ⟨sh,fr,sl,sps,hand,.slice p1 sh.length c1,.slice p2 fr.length c2,.slice p3 sl.length c3,.slice p4 sps.length c4⟩).spaces=sps.map (·.s):=rfl;have hlX:∀ {i:Nat} {x:Sp},sps[i]?=some x->(KV.K ⟨sh,fr,sl,sps,hand,.slice p1 sh.length c1,.slice p2 fr.length c2,.slice p3 sl.length c3,.slice p4 sps.length c4⟩).spaces[i]?=some x.s:=fun h=>a1e h;generalize hKK:KV.K ⟨sh,fr,sl,sps,hand,.slice p1 sh.length c1,.slice p2 fr.length c2,.slice p3 sl.length c3,.slice p4 sps.length c4⟩=K at hli hown hRE hlS hlL hlM hlX |-;rw [hlL] at hRE;unfold kvC at hli hown |-;dsimp only at hli hown |-;have hno:∀ {w1 Γ1},St nF w w1 Γ1->∀ {e:Int} {T:Ker},e≠0->∃ k':KV,Value.tuple #[.agg #[.slice none 0 0,.slice none 0 0,.slice none 0 0,.slice none 0 0,.int .i64 0],.int .i64 e]=.tuple #[.agg [k'.vsh,k'.vfr,k'.vsl,k'.vsp,.int .i64 k'.hand].toArray,.int .i64 e]/\k'.K=(if e=0 then T else b2I)/\Came w w1 k':=by
  intro w1 Γ1 h e T he;exact ⟨kv0,rfl,by rw [xe7 he];rfl,xd4 ⟨rfl,h.sub (xi4 _)⟩⟩
 refine yEn Tryz.func21 Tryz.ntmps21 (by kernel_rfl) (by kernel_rfl) rfl rfl ?_;have hS:=St.start w;by_cases he:a0c K space=0
 ·obtain ⟨hr,sp,rfl,hspl,hlv⟩:=a1V he;rw [xe6 he,xh3] at hRE;rw [xh3];have hd:decide (a0c K (sp:Int)=0)=true:=xi8 he;rw [he] at hli;obtain ⟨x,hx⟩:∃ x,sps[sp]?=some x:=j4 (by omega);have hxm:=xc8 hx;have hsc0:=hlX hx;obtain ⟨hsc,hel⟩:=a1F hr x.s (xc8 hsc0);have hxA:m6 K sp=x.s.areas:=by unfold m6;rw [z7 hsc0]
  have hra:=a6k hsc0 (t7 x.s.areas page pages prot).1;rw [hxA] at hRE |-;dsimp only at hRE
  try dsimp only
  have hsp4:=hr.cnt;have hspl2:=f7 hx;obtain ⟨pa,ca,hva⟩:=(k5 x hxm).ar.len;obtain ⟨bs,os,hvp⟩:∃ b o,p4=some ⟨b,o,none⟩:=by
   obtain ⟨b,o,h,-⟩:=k4.at_ (i:=sp) (by omega);exact ⟨b,o,h⟩
  subst hvp;have hrowS:=f8 (f:=spC) hx;unfold spC at hrowS;rw [hva] at hrowS;have hspV:∀ {w1 Γ1},St nF w w1 Γ1->Sl nF w1 3 (.slice (some ⟨bs,os,none⟩) sps.length c4) (sps.map fun q=>[.bool q.s.live,q.va,q.ve]):=fun h=>(hK0.now h).sp;have hmi:=fun w1 Γ1 (h:St nF w w1 Γ1)=>a7W (w:=w1) (L:=x.s.areas) page pages prot (by have:=((k5 x hxm).ar.now h);rw [hva] at this;exact this);by_cases h2:(t7 x.s.areas page pages prot).2=0;rotate_left
  ·rw [xe7 h2] at hRE;have hd2:decide ((t7 x.s.areas page pages prot).2=0)=false:=xi7 h2;rw [hRE];generalize t7 x.s.areas page pages prot=RR at hmi h2 hd2 |-
   repeat' (first|(with_reducible apply d5 c9);rfl;rfl;rfl|(with_reducible apply d6);rfl;(first|apply Ld.sl c9;rfl;exact hS.blkC 1 rfl rfl|apply Ld.st c9;rfl;exact hS.blkR 1 rfl;rfl);rfl|(with_reducible apply m8 c9);rfl;rfl;rfl;rfl;omega;rfl|(with_reducible apply v8 c9);rfl;rfl;exact (rfl:_=some [_,_,_,_,_]);rfl|refine yDn (by with_reducible constructor) ?_|(with_reducible apply i6);rfl;rfl|(with_reducible apply j6 hS);rfl;rfl;rfl;clear hS;intro g w' hS|(with_reducible apply f5 hS c9);rfl;rfl;rfl;clear hS;intro g w' hS|(with_reducible apply d7 hS c9 (i:=1));(iterate 8 rfl);exact (rfl:_=[_,_,_,_,_]);clear hS;intro w' hS;simp only [List.set] at hS|(with_reducible apply a0j);rfl;all_goals (intro hb hp;try (exfalso;omega))|(with_reducible apply f9 hS);rfl;rfl;rfl;refine ⟨_,hli _ (hK0.now hS),?_⟩;clear hS;intro w' hS|(with_reducible apply a0K c9);rfl;rfl;rfl;refine ⟨_,(hspV hS).cel hrowS rfl,?_⟩|(with_reducible apply l9);rfl;rfl;rfl;refine ⟨_,hmi _ _ hS,?_⟩;rintro _ w' ⟨u,rfl,hS'⟩;replace hS:=hS.transA hS';simp only [t5] at hS;clear hS')
   (apply a0i;repeat (first|exact ResL.nil|apply ResL.tmp;rfl|apply ResL.cell;rfl;(apply Ld.st c9;rfl;exact hS.blkR 1 rfl;rfl)))
   exact hno hS h2
  rw [xe6 h2] at hRE;obtain ⟨hck,hsum⟩:=a8D h2;rw [xe7 (by rw [hra];have:=hr.room;omega)] at hRE;rw [hRE,xe6 rfl];have hK3:a1J K sp (t7 x.s.areas page pages prot).1=a2S K sp ⟨x.s.live,(t7 x.s.areas page pages prot).1,x.s.entries⟩:=by
   unfold a1J w9;rw [z7 hsc0]
  rw [hK3];clear hK3;unfold a3u at hmi;rw [h2] at hmi;generalize (t7 x.s.areas page pages prot).1=A2 at hmi |-
  repeat' (first|(with_reducible apply d5 c9);rfl;rfl;rfl|(with_reducible apply d6);rfl;(first|apply Ld.sl c9;rfl;exact hS.blkC 1 rfl rfl|apply Ld.st c9;rfl;(first|exact hS.blkR 1 rfl|exact hS.blkR 2 rfl);rfl);rfl|(with_reducible apply m8 c9);rfl;rfl;rfl;rfl;omega;rfl|refine yDn (by with_reducible constructor) ?_|(with_reducible apply i6);rfl;rfl|(with_reducible apply i9);rfl;rfl|(with_reducible apply j6 hS);rfl;rfl;rfl;clear hS;intro g w' hS|(with_reducible apply f5 hS c9);rfl;rfl;rfl;clear hS;intro g w' hS|(with_reducible apply f9 hS);rfl;rfl;rfl;refine ⟨_,hli _ (hK0.now hS),?_⟩;clear hS;intro w' hS|(with_reducible apply a0K c9);rfl;rfl;rfl;refine ⟨_,(hspV hS).cel hrowS rfl,?_⟩|((with_reducible apply l9);rfl;rfl;rfl;refine ⟨_,hmi _ _ hS,?_⟩;rintro _ w' ⟨u,rfl,hS'⟩;replace hS:=hS.transA hS';simp only [t5] at hS;clear hS';obtain ⟨pu,cu,rfl⟩:=hS.rowSlice 0 rfl;rw [xi3] at hS |-)|(with_reducible apply l9);rfl;rfl;rfl;refine ⟨_,hown _ (hK0.now hS) hr,?_⟩;rintro _ w2 ⟨k2,rfl,hk2,h3⟩)
  replace h3:=h3.perm (a5i k2);replace hS:=hS.trans h3;clear h3 hown hli hmi;have hV2:=KerV.own hS;replace hS:=hS.perm xl8;dsimp only [List.cons_append,List.nil_append] at hS;have hsp2:k2.sp.length=sps.length:=by rw [<- hlS,<- hk2];exact (xi3 _).symm
  obtain ⟨z,hz⟩:=j4 (l:=k2.sp) (i:=sp) (by omega);have hzs:z.s=x.s:=by
   have h:=a1e hz;rw [hk2,hsc0] at h;exact (Option.some.inj h).symm
  obtain ⟨b2,o2,e2,hv4⟩:=hV2.sp.form1 hz;obtain ⟨py,cy,hya⟩:=(hV2.spv z (xc8 hz)).ar.len;obtain ⟨sh2,fr2,sl2,sp2,hand2,vsh2,vfr2,vsl2,vsp2⟩:=k2;dsimp only at hsp2 hv4 hz;subst hv4;obtain ⟨q1,d1,rfl⟩:∃ p c,vsh2=.slice p sh2.length c:=hV2.sh.sl.len;obtain ⟨q2,d2,rfl⟩:∃ p c,vfr2=.slice p fr2.length c:=hV2.fr.len;obtain ⟨q3,d3,rfl⟩:∃ p c,vsl2=.slice p sl2.length c:=hV2.sl.len;have hspl3:=f7 hz;unfold frA slA a20 a0d at hS;dsimp only [List.cons_append,List.nil_append] at hS;have hos:o2=0:=by
   obtain ⟨gg,hgg⟩:=hS.rowSome 5 rfl (xm8 (xf9 _) hspl3);injection hgg with hgg
   injection hgg
  subst hos;have hrowZ:=f8 (f:=spC) hz;unfold spC at hrowZ;rw [hya,hzs] at hrowZ;obtain ⟨y,hy⟩:∃ y:Sp,y=⟨⟨x.s.live,A2,x.s.entries⟩,.slice pu A2.length cu,z.ve⟩:=⟨_,rfl⟩;have hzy:(sp2.set sp y)[sp]?=some y:=by rw [xd7,xe6 rfl,xe6 hspl3]
  have e1:(sp2.map spC).set sp (p9 [.bool x.s.live,.slice py x.s.areas.length cy,z.ve] 1 [.slice pu A2.length cu])=(sp2.set sp y).map spC:=by rw [xk6,hy];rfl
  repeat' (first|(with_reducible apply d5 c9);rfl;rfl;rfl|(with_reducible apply d6);rfl;(first|apply Ld.sl c9;rfl;exact hS.blkC 0 rfl rfl|apply Ld.st c9;rfl;exact hS.blkR 0 rfl;rfl);rfl|(with_reducible apply m8 c9);rfl;rfl;rfl;rfl;omega;rfl|refine yDn (by with_reducible constructor) ?_|(with_reducible apply f5 hS c9);rfl;rfl;rfl;clear hS;intro g w' hS|(with_reducible apply d7 hS c9 (i:=0));(iterate 8 rfl);exact (rfl:_=[_,_,_,_,_]);clear hS;intro w' hS;simp only [List.set] at hS|(with_reducible apply d7 hS c9 (i:=2));(iterate 8 rfl);exact (rfl:_=[_,_,_,_,_]);clear hS;intro w' hS;simp only [List.set] at hS|(with_reducible apply t3 hS c9 (i:=6));(iterate 4 rfl);assumption;(iterate 5 rfl);intro w' hS';simp only [List.set] at hS';clear hS;have hS:=hS';clear hS')
  rw [e1] at hS
  repeat' (fail)
  (apply a0i;repeat (first|exact ResL.nil|apply ResL.tmp;rfl|apply ResL.cell;rfl;(apply Ld.st c9;rfl;exact hS.blkR 2 rfl;rfl)))
  have hA:=a0l a17 hz;have hB:=a0l a17 hzy;rw [a0Z] at hB;have hyA:a17 y=.row 136 4 (.slice pu A2.length cu) (A2.map arC):=by rw [hy];rfl
  have hE:(sp2.set sp y).map x9=sp2.map x9:=a4a hz (by rw [hy];unfold x9;rw [hzs]);rw [hyA] at hB;replace hS:=(hS.drop.perm (a4e (X:=[_,_,_,_]) hA hB)).drop.drop.drop;rw [<- hE] at hS;refine ⟨⟨sh2,fr2,sl2,sp2.set sp y,hand2,.slice q1 sh2.length d1,.slice q2 fr2.length d2,.slice q3 sl2.length d3,.slice (some ⟨b2,0,none⟩) sp2.length e2⟩,rfl,?_,xd1 hS⟩;rw [<- hk2,hy];unfold a2S KV.K;dsimp only;rw [xk6]
 ·have hd:decide (a0c K space=0)=false:=xi7 he;rw [xe7 he] at hRE;rw [<- hRE] at he hd hli
  repeat' (first|(with_reducible apply d5 c9);rfl;rfl;rfl|(with_reducible apply d6);rfl;(apply Ld.st c9;rfl;exact hS.blkR 1 rfl;rfl);rfl|(with_reducible apply v8 c9);rfl;rfl;exact (rfl:_=some [_,_,_,_,_]);rfl|refine yDn (by with_reducible constructor) ?_|(with_reducible apply i9);rfl;assumption|(with_reducible apply j6 hS);rfl;rfl;rfl;clear hS;intro g w' hS|(with_reducible apply f5 hS c9);rfl;rfl;rfl;clear hS;intro g w' hS|(with_reducible apply d7 hS c9 (i:=0));(iterate 8 rfl);exact (rfl:_=[_,_,_,_,_]);clear hS;intro w' hS;simp only [List.set] at hS|(with_reducible apply a0j);rfl;all_goals (intro hb hp;try (exfalso;omega))|(with_reducible apply f9 hS);rfl;rfl;rfl;refine ⟨_,hli _ (hK0.now hS),?_⟩;clear hS;intro w' hS)
  (apply a0i;repeat (first|exact ResL.nil|apply ResL.tmp;rfl|apply ResL.cell;rfl;(apply Ld.st c9;rfl;exact hS.blkR 0 rfl;rfl)))
  exact hno hS he
theorem b2m {w w1:World} {Γ:List Asr} {A:List Ar} {va:Value} {g1 g2 g3:Nat} {page pages prot:Int} (h:St nF w w1 Γ) (hsl:Sl nF w1 4 va (A.map arC)) (h1:w.cell? ⟨g1,0,none⟩=some (.int .i64 page)) (h2:w.cell? ⟨g2,0,none⟩=some (.int .i64 pages)) (h3:w.cell? ⟨g3,0,none⟩=some (.int .i64 prot)) :
  Fn Tryz.prog 61 [va,.pointer (some ⟨g1,0,none⟩),.pointer (some ⟨g2,0,none⟩),.pointer (some ⟨g3,0,none⟩)] w1 (a3u (a0s A page pages prot) w1):=by
 have k1:=Bs.of (h.bs (Bs.of h1));have k2:=Bs.of (h.bs (Bs.of h2));have k3:=Bs.of (h.bs (Bs.of h3));obtain ⟨p,c,rfl⟩:=hsl.len;refine yEn Tryz.func61 Tryz.ntmps61 (by kernel_rfl) (by kernel_rfl) rfl rfl ?_;have hS:=St.start w1
 repeat' (first|(with_reducible apply d5 c9);rfl;rfl;rfl|(with_reducible apply d6);rfl;(apply Ld.sc c9;rfl;exact hS.bs (by assumption));rfl|refine yDn (by with_reducible constructor) ?_|(with_reducible apply l9);rfl;rfl;rfl;refine ⟨_,b6r page pages prot (hsl.now hS),?_⟩;rintro _ w' ⟨u,rfl,hS'⟩;replace hS:=hS.transA hS';simp only [t5] at hS;clear hS')
 (refine a1a rfl ?_)
 exact ⟨_,rfl,hS⟩
theorem b1I {w w1:World} {Γ:List Asr} {A:List Ar} {va:Value} {g1 g2 g3:Nat} {page pages prot:Int} (h:St nF w w1 Γ) (hsl:Sl nF w1 4 va (A.map arC)) (h1:w.cell? ⟨g1,0,none⟩=some (.int .i64 page)) (h2:w.cell? ⟨g2,0,none⟩=some (.int .i64 pages)) (h3:w.cell? ⟨g3,0,none⟩=some (.int .i64 prot)) :
  Fn Tryz.prog 66 [va,.pointer (some ⟨g1,0,none⟩),.pointer (some ⟨g2,0,none⟩),.pointer (some ⟨g3,0,none⟩)] w1 (a3u (t7 A page pages prot) w1):=by
 have k1:=Bs.of (h.bs (Bs.of h1));have k2:=Bs.of (h.bs (Bs.of h2));have k3:=Bs.of (h.bs (Bs.of h3));obtain ⟨p,c,rfl⟩:=hsl.len;refine yEn Tryz.func66 Tryz.ntmps66 (by kernel_rfl) (by kernel_rfl) rfl rfl ?_;have hS:=St.start w1
 repeat' (first|(with_reducible apply d5 c9);rfl;rfl;rfl|(with_reducible apply d6);rfl;(apply Ld.sc c9;rfl;exact hS.bs (by assumption));rfl|refine yDn (by with_reducible constructor) ?_|(with_reducible apply l9);rfl;rfl;rfl;refine ⟨_,a9k page pages prot (hsl.now hS),?_⟩;rintro _ w' ⟨u,rfl,hS'⟩;replace hS:=hS.transA hS';simp only [t5] at hS;clear hS')
 (refine a1a rfl ?_)
 exact ⟨_,rfl,hS⟩
theorem b4M {w w1:World} {Γ:List Asr} {A:List Ar} {va:Value} {g1 g2:Nat} {page pages:Int} (h:St nF w w1 Γ) (hsl:Sl nF w1 4 va (A.map arC)) (h1:w.cell? ⟨g1,0,none⟩=some (.int .i64 page)) (h2:w.cell? ⟨g2,0,none⟩=some (.int .i64 pages)) :
  Fn Tryz.prog 63 [va,.pointer (some ⟨g1,0,none⟩),.pointer (some ⟨g2,0,none⟩)] w1 (a3u (r5 A page pages) w1):=by
 have k1:=Bs.of (h.bs (Bs.of h1));have k2:=Bs.of (h.bs (Bs.of h2));obtain ⟨p,c,rfl⟩:=hsl.len;refine yEn Tryz.func63 Tryz.ntmps63 (by kernel_rfl) (by kernel_rfl) rfl rfl ?_;have hS:=St.start w1
 repeat' (first|(with_reducible apply d5 c9);rfl;rfl;rfl|(with_reducible apply d6);rfl;(apply Ld.sc c9;rfl;exact hS.bs (by assumption));rfl|refine yDn (by with_reducible constructor) ?_|(with_reducible apply l9);rfl;rfl;rfl;refine ⟨_,b36 page pages (hsl.now hS),?_⟩;rintro _ w' ⟨u,rfl,hS'⟩;replace hS:=hS.transA hS';simp only [t5] at hS;clear hS')
 (refine a1a rfl ?_)
 exact ⟨_,rfl,hS⟩
theorem b5i {w:World} {k:KV} (hK:KerV w k) (space page pages prot:Int):Fn Tryz.prog 16 [.agg (kvC k).toArray,.int .i64 space,.int .i64 page,.int .i64 pages,.int .i64 prot] w (fun v w'=>∃ k',v=.tuple #[.agg (kvC k').toArray,.int .i64 (arE k.K space fun A=>a0s A page pages prot)]/\k'.K=arR k.K space (fun A=>a0s A page pages prot)/\Came w w' k'):=by
 have har:=fun w1 (h:KerV w1 k) (g1 g2 g3:Nat) h1 h2 h3=>a4E h space (kf:=61) (caps:=[.pointer (some ⟨g1,0,none⟩),.pointer (some ⟨g2,0,none⟩),.pointer (some ⟨g3,0,none⟩)]) (r:=fun A=>a0s A page pages prot) (fun A h0=>(b0n h0).1) (fun hs hsl=>b2m hs hsl h1 h2 h3);unfold arR;obtain ⟨sh,fr,sl,sps,hand,vsh,vfr,vsl,vsp⟩:=k;have hK0:=hK;obtain ⟨k1,k2,k3,k4,k5⟩:=hK;dsimp only at k1 k2 k3 k4 k5;obtain ⟨p1,c1,rfl⟩:=k1.sl.len;obtain ⟨p2,c2,rfl⟩:=k2.len;obtain ⟨p3,c3,rfl⟩:=k3.len;obtain ⟨p4,c4,rfl⟩:=k4.len;generalize hKK:KV.K ⟨sh,fr,sl,sps,hand,.slice p1 sh.length c1,.slice p2 fr.length c2,.slice p3 sl.length c3,.slice p4 sps.length c4⟩=K at har |-;generalize arE K space (fun A=>a0s A page pages prot)=RE at har |-;unfold kvC at har |-;dsimp only at har |-;refine yEn Tryz.func16 Tryz.ntmps16 (by kernel_rfl) (by kernel_rfl) rfl rfl ?_;have hS:=St.start w
 repeat' (first|(with_reducible apply d5 c9);rfl;rfl;rfl|(with_reducible apply d6);rfl;(apply Ld.st c9;rfl;exact hS.blkR 4 rfl;rfl);rfl|refine yDn (by with_reducible constructor) ?_|(with_reducible apply j6 hS);rfl;rfl;rfl;clear hS;intro g w' hS|(with_reducible apply f5 hS c9);rfl;rfl;rfl;clear hS;intro g w' hS)
 refine a1d (first:=[]) (caps:=[]) rfl rfl (har _ (hK0.now hS) _ _ _ (hS.blkC 3 rfl rfl) (hS.blkC 2 rfl rfl) (hS.blkC 1 rfl rfl)) rfl ?_;clear har;rintro _ w3 ⟨gk,rfl,⟨hne,hS'⟩|⟨sp,k',he,rfl,hk',hS'⟩⟩
 ·replace hS:=hS.trans hS';clear hS';unfold wkB kv0 at hS;dsimp only [List.cons_append,List.nil_append] at hS
  repeat' (first|(with_reducible apply d5 c9);rfl;rfl;rfl|refine yDn (by with_reducible constructor) ?_|(with_reducible apply d7 hS c9 (i:=1));(iterate 8 rfl);exact (rfl:_=[_,_,_,_,_]);clear hS;intro w' hS;simp only [List.set] at hS|(with_reducible apply a1c c9);rfl;rfl;rfl;refine ⟨_,hS.blkRk 0 0 5 rfl,rfl,?_⟩)
  (apply a0i;repeat (first|exact ResL.nil|apply ResL.tmp;rfl|apply ResL.cell;rfl;(apply Ld.st c9;rfl;exact hS.blkR 1 rfl;rfl)))
  exact ⟨kv0,rfl,by rw [xe7 hne];rfl,xd4 ⟨rfl,hS.sub (xi4 _)⟩⟩
 ·replace hS:=hS.trans hS';clear hS';rw [xf4] at hS;have hV:=(WkV.own hS).ker;rw [<- xf4] at hS;replace hS:=hS.perm xl8;dsimp only [List.cons_append,List.nil_append] at hS;rw [xh3,xe6 he];obtain ⟨sh2,fr2,sl2,sp2,hand2,vsh2,vfr2,vsl2,vsp2⟩:=k';obtain ⟨q1,d1,rfl⟩:∃ p c,vsh2=.slice p sh2.length c:=hV.sh.sl.len;obtain ⟨q2,d2,rfl⟩:∃ p c,vfr2=.slice p fr2.length c:=hV.fr.len;obtain ⟨q3,d3,rfl⟩:∃ p c,vsl2=.slice p sl2.length c:=hV.sl.len;obtain ⟨q4,d4,rfl⟩:∃ p c,vsp2=.slice p sp2.length c:=hV.sp.len;unfold wkS wkB at hS;dsimp only [List.cons_append,List.nil_append] at hS
  repeat' (first|(with_reducible apply d5 c9);rfl;rfl;rfl|refine yDn (by with_reducible constructor) ?_|(with_reducible apply d7 hS c9 (i:=0));(iterate 8 rfl);exact (rfl:_=[_,_,_,_,_]);clear hS;intro w' hS;simp only [List.set] at hS|(with_reducible apply a1c c9);rfl;rfl;rfl;refine ⟨_,hS.blkRk 5 0 5 rfl,rfl,?_⟩)
  (apply a0i;repeat (first|exact ResL.nil|apply ResL.tmp;rfl|apply ResL.cell;rfl;(apply Ld.st c9;rfl;exact hS.blkR 0 rfl;rfl)))
  exact ⟨_,rfl,hk',xd1 hS.drop.drop.drop.drop.drop.drop.drop⟩
theorem a8o {w:World} {k:KV} (hK:KerV w k) (space page pages prot:Int):Fn Tryz.prog 18 [.agg (kvC k).toArray,.int .i64 space,.int .i64 page,.int .i64 pages,.int .i64 prot] w (fun v w'=>∃ k',v=.tuple #[.agg (kvC k').toArray,.int .i64 (arE k.K space fun A=>t7 A page pages prot)]/\k'.K=arR k.K space (fun A=>t7 A page pages prot)/\Came w w' k'):=by
 have har:=fun w1 (h:KerV w1 k) (g1 g2 g3:Nat) h1 h2 h3=>a4E h space (kf:=66) (caps:=[.pointer (some ⟨g1,0,none⟩),.pointer (some ⟨g2,0,none⟩),.pointer (some ⟨g3,0,none⟩)]) (r:=fun A=>t7 A page pages prot) (fun A h0=>(a8D h0).1) (fun hs hsl=>b1I hs hsl h1 h2 h3);unfold arR;obtain ⟨sh,fr,sl,sps,hand,vsh,vfr,vsl,vsp⟩:=k;have hK0:=hK;obtain ⟨k1,k2,k3,k4,k5⟩:=hK;dsimp only at k1 k2 k3 k4 k5;obtain ⟨p1,c1,rfl⟩:=k1.sl.len;obtain ⟨p2,c2,rfl⟩:=k2.len;obtain ⟨p3,c3,rfl⟩:=k3.len;obtain ⟨p4,c4,rfl⟩:=k4.len;generalize hKK:KV.K ⟨sh,fr,sl,sps,hand,.slice p1 sh.length c1,.slice p2 fr.length c2,.slice p3 sl.length c3,.slice p4 sps.length c4⟩=K at har |-;generalize arE K space (fun A=>t7 A page pages prot)=RE at har |-;unfold kvC at har |-;dsimp only at har |-;refine yEn Tryz.func18 Tryz.ntmps18 (by kernel_rfl) (by kernel_rfl) rfl rfl ?_;have hS:=St.start w
 repeat' (first|(with_reducible apply d5 c9);rfl;rfl;rfl|(with_reducible apply d6);rfl;(apply Ld.st c9;rfl;exact hS.blkR 4 rfl;rfl);rfl|refine yDn (by with_reducible constructor) ?_|(with_reducible apply j6 hS);rfl;rfl;rfl;clear hS;intro g w' hS|(with_reducible apply f5 hS c9);rfl;rfl;rfl;clear hS;intro g w' hS)
 refine a1d (first:=[]) (caps:=[]) rfl rfl (har _ (hK0.now hS) _ _ _ (hS.blkC 3 rfl rfl) (hS.blkC 2 rfl rfl) (hS.blkC 1 rfl rfl)) rfl ?_;clear har;rintro _ w3 ⟨gk,rfl,⟨hne,hS'⟩|⟨sp,k',he,rfl,hk',hS'⟩⟩
 ·replace hS:=hS.trans hS';clear hS';unfold wkB kv0 at hS;dsimp only [List.cons_append,List.nil_append] at hS
  repeat' (first|(with_reducible apply d5 c9);rfl;rfl;rfl|refine yDn (by with_reducible constructor) ?_|(with_reducible apply d7 hS c9 (i:=1));(iterate 8 rfl);exact (rfl:_=[_,_,_,_,_]);clear hS;intro w' hS;simp only [List.set] at hS|(with_reducible apply a1c c9);rfl;rfl;rfl;refine ⟨_,hS.blkRk 0 0 5 rfl,rfl,?_⟩)
  (apply a0i;repeat (first|exact ResL.nil|apply ResL.tmp;rfl|apply ResL.cell;rfl;(apply Ld.st c9;rfl;exact hS.blkR 1 rfl;rfl)))
  exact ⟨kv0,rfl,by rw [xe7 hne];rfl,xd4 ⟨rfl,hS.sub (xi4 _)⟩⟩
 ·replace hS:=hS.trans hS';clear hS';rw [xf4] at hS;have hV:=(WkV.own hS).ker;rw [<- xf4] at hS;replace hS:=hS.perm xl8;dsimp only [List.cons_append,List.nil_append] at hS;rw [xh3,xe6 he];obtain ⟨sh2,fr2,sl2,sp2,hand2,vsh2,vfr2,vsl2,vsp2⟩:=k';obtain ⟨q1,d1,rfl⟩:∃ p c,vsh2=.slice p sh2.length c:=hV.sh.sl.len;obtain ⟨q2,d2,rfl⟩:∃ p c,vfr2=.slice p fr2.length c:=hV.fr.len;obtain ⟨q3,d3,rfl⟩:∃ p c,vsl2=.slice p sl2.length c:=hV.sl.len;obtain ⟨q4,d4,rfl⟩:∃ p c,vsp2=.slice p sp2.length c:=hV.sp.len;unfold wkS wkB at hS;dsimp only [List.cons_append,List.nil_append] at hS
  repeat' (first|(with_reducible apply d5 c9);rfl;rfl;rfl|refine yDn (by with_reducible constructor) ?_|(with_reducible apply d7 hS c9 (i:=0));(iterate 8 rfl);exact (rfl:_=[_,_,_,_,_]);clear hS;intro w' hS;simp only [List.set] at hS|(with_reducible apply a1c c9);rfl;rfl;rfl;refine ⟨_,hS.blkRk 5 0 5 rfl,rfl,?_⟩)
  (apply a0i;repeat (first|exact ResL.nil|apply ResL.tmp;rfl|apply ResL.cell;rfl;(apply Ld.st c9;rfl;exact hS.blkR 0 rfl;rfl)))
  exact ⟨_,rfl,hk',xd1 hS.drop.drop.drop.drop.drop.drop.drop⟩
def unP (page pages:Int) (e:En):Bool:=decide (page<=e.page) && decide (e.page < page + pages)
theorem b4a {F:Nat->Prop} {w w1:World} {Γ:List Asr} {g1 g2:Nat} {page pages:Int} (h1:Bs F w ⟨g1,0,none⟩ (.int .i64 page)) (h2:Bs F w ⟨g2,0,none⟩ (.int .i64 pages)) (h:St F w w1 Γ) (hp:1<=page/\page<=255/\1<=pages/\pages<=256) (e:En) :
  Fn Tryz.prog 65 [.agg (enC e).toArray,.pointer (some ⟨g1,0,none⟩),.pointer (some ⟨g2,0,none⟩)] w1 (RBf (.bool (unP page pages e)) w1):=by
 have k1:=Bs.of (h.bs h1);have k2:=Bs.of (h.bs h2);obtain ⟨p1,p2,p3,p4⟩:=hp;unfold enC unP;refine yEn Tryz.func65 Tryz.ntmps65 (by kernel_rfl) (by kernel_rfl) rfl rfl ?_;have hS:=St.start w1
 cases hd:decide (page<=e.page) with
 |true=>
  repeat' (first|(with_reducible apply d5 c9);rfl;rfl;rfl|(with_reducible apply d6);rfl;(apply Ld.sc c9;rfl;(first|exact hS.blkC 0 rfl rfl|exact hS.bs (by assumption)));rfl|(with_reducible apply j7);rfl;rfl;omega;omega;rfl|refine yDn (by with_reducible constructor) ?_|(with_reducible apply l8);(iterate 4 rfl);assumption|(with_reducible apply j9);rfl;assumption;rfl;rfl|(with_reducible apply j6 hS);rfl;rfl;rfl;clear hS;intro g w' hS)
  (refine l4 rfl ?_)
  exact ⟨rfl,hS.sub (xi4 _)⟩
 |false=>
  repeat' (first|(with_reducible apply d5 c9);rfl;rfl;rfl|(with_reducible apply d6);rfl;(apply Ld.sc c9;rfl;(first|exact hS.blkC 0 rfl rfl|exact hS.bs (by assumption)));rfl|refine yDn (by with_reducible constructor) ?_|(with_reducible apply a0a);(iterate 4 rfl);assumption;rfl|(with_reducible apply i4);rfl;assumption;rfl;rfl|(with_reducible apply j6 hS);rfl;rfl;rfl;clear hS;intro g w' hS)
  (refine l4 rfl ?_)
  exact ⟨rfl,hS.sub (xi4 _)⟩
theorem b2t {K:Ker} {space:Int} {r:List Ar->List Ar×Int} (h:arE K space r=0):a0c K space=0/\(r (m6 K space.toNat)).2=0:=by
 unfold arE at h;by_cases h1:a0c K space=0
 ·rw [xe6 h1] at h;by_cases h2:(r (m6 K space.toNat)).2=0
  ·exact ⟨h1,h2⟩
  ·rw [xe7 h2] at h;exact absurd h h2
 ·rw [xe7 h1] at h;exact absurd h h1
theorem a8c {L:List Ar} {page pages:Int} (h:(r5 L page pages).2=0):1<=page/\page<=255/\1<=pages/\pages<=256:=by
 unfold r5 at h;by_cases hs:n8 L page pages 0=0
 ·obtain ⟨hc,p1,p2,p3,p4,p5,p6⟩:=a0Q hs;omega
 ·rw [xe6 hs] at h;exact (hs h).elim
theorem b55 {k':KV} {K:Ker} {sp:Nat} {A:List Ar} {x:Sp} (hr:Right K) (hspl:sp < K.spaces.length) (hk':k'.K=a1J K sp A) (hx:k'.sp[sp]?=some x) (p:En->Bool) (i:Nat) (e:En) (he:x.s.entries[i]?=some e):a5w (a0E k' p (x.s.entries.take i)) e:=by
 have hK0:KV.K { k' with sp:=K.spaces.map fun s=>⟨s,.slice none 0 0,.slice none 0 0⟩ }=K:=by
  have h1:=congrArg Ker.sheets hk';have h2:=congrArg Ker.frames hk';have h3:=congrArg Ker.slots hk';have h5:=congrArg Ker.hand hk';unfold a1J a2S KV.K at h1 h2 h3 h5;dsimp only at h1 h2 h3 h5;unfold KV.K
  try dsimp only
  rw [h1,h2,h3,h5,xn0];have:(fun p:Sp=>p.s) ∘ (fun s:Sc=>(⟨s,.slice none 0 0,.slice none 0 0⟩:Sp))=id:=rfl;rw [this,List.map_id]
 have hs:=xd8 hspl;have hxs:x.s.entries=w9 K sp:=by
  have h6:k'.K.spaces[sp]?=some x.s:=a1e hx;rw [hk'] at h6;have h7:(a1J K sp A).spaces[sp]?=some ⟨(a0I K sp).live,A,w9 K sp⟩:=by
   unfold a1J a2S;rw [xd7,xe6 rfl,xe6 hspl]
  rw [h7] at h6;rw [<- Option.some.inj h6]
 have hx0:({ k' with sp:=K.spaces.map fun s=>⟨s,.slice none 0 0,.slice none 0 0⟩ }:KV).sp[sp]?=some ⟨K.spaces[sp],.slice none 0 0,.slice none 0 0⟩:=by
  try dsimp only
  rw [xh0,hs];rfl
 have he0:w9 K sp=K.spaces[sp].entries:=by unfold w9;rw [z7 hs]
 rw [hxs,he0] at he |-;have h:=b3q (by rw [hK0];exact hr) hx0 p i e he;unfold a0E at h |-;dsimp only at h;rw [a55] at h;exact ⟨h.1,h.2,h.3⟩
theorem b1i {w:World} {k:KV} (hK:KerV w k) (space page pages:Int):Fn Tryz.prog 17 [.agg (kvC k).toArray,.int .i64 space,.int .i64 page,.int .i64 pages] w (fun v w'=>∃ k',v=.tuple #[.agg (kvC k').toArray,.int .i64 (arE k.K space fun A=>r5 A page pages)]/\k'.K=unR k.K space page pages/\Came w w' k'):=by
 have har:=fun w1 (h:KerV w1 k) (g1 g2:Nat) h1 h2=>a4E h space (kf:=63) (caps:=[.pointer (some ⟨g1,0,none⟩),.pointer (some ⟨g2,0,none⟩)]) (r:=fun A=>r5 A page pages) (fun A h0=>(a6V h0).1) (fun hs hsl=>b4M hs hsl h1 h2);unfold unR;obtain ⟨sh,fr,sl,sps,hand,vsh,vfr,vsl,vsp⟩:=k;have hK0:=hK;obtain ⟨k1,k2,k3,k4,k5⟩:=hK;dsimp only at k1 k2 k3 k4 k5;obtain ⟨p1,c1,rfl⟩:=k1.sl.len;obtain ⟨p2,c2,rfl⟩:=k2.len;obtain ⟨p3,c3,rfl⟩:=k3.len;obtain ⟨p4,c4,rfl⟩:=k4.len;generalize hKK:KV.K ⟨sh,fr,sl,sps,hand,.slice p1 sh.length c1,.slice p2 fr.length c2,.slice p3 sl.length c3,.slice p4 sps.length c4⟩=K at har |-;obtain ⟨RE,hRE⟩:∃ e,e=arE K space (fun A=>r5 A page pages):=⟨_,rfl⟩;rw [<- hRE] at har |-;unfold kvC at har |-;dsimp only at har |-;refine yEn Tryz.func17 Tryz.ntmps17 (by kernel_rfl) (by kernel_rfl) rfl rfl ?_;have hS:=St.start w
 repeat' (first|(with_reducible apply d5 c9);rfl;rfl;rfl|(with_reducible apply d6);rfl;(apply Ld.st c9;rfl;exact hS.blkR 3 rfl;rfl);rfl|refine yDn (by with_reducible constructor) ?_|(with_reducible apply j6 hS);rfl;rfl;rfl;clear hS;intro g w' hS|(with_reducible apply f5 hS c9);rfl;rfl;rfl;clear hS;intro g w' hS)
 refine a1d (first:=[]) (caps:=[]) rfl rfl (har _ (hK0.now hS) _ _ (hS.blkC 2 rfl rfl) (hS.blkC 1 rfl rfl)) rfl ?_;clear har;rintro _ w3 ⟨gk,rfl,⟨hne,hS'⟩|⟨sp,k',he,rfl,hk',hS'⟩⟩
 ·replace hS:=hS.trans hS';clear hS';unfold wkB kv0 at hS;dsimp only [List.cons_append,List.nil_append] at hS;have hd:decide (RE=0)=false:=xi7 hne
  repeat' (first|(with_reducible apply d5 c9);rfl;rfl;rfl|refine yDn (by with_reducible constructor) ?_|(with_reducible apply i9);rfl;assumption|(with_reducible apply d7 hS c9 (i:=1));(iterate 8 rfl);exact (rfl:_=[_,_,_,_,_]);clear hS;intro w' hS;simp only [List.set] at hS|(with_reducible apply a1c c9);rfl;rfl;rfl;refine ⟨_,hS.blkRk 0 0 5 rfl,rfl,?_⟩)
  (apply a0i;repeat (first|exact ResL.nil|apply ResL.tmp;rfl|apply ResL.cell;rfl;(apply Ld.st c9;rfl;exact hS.blkR 1 rfl;rfl)))
  exact ⟨kv0,rfl,by rw [xe7 hne];rfl,xd4 ⟨rfl,hS.sub (xi4 _)⟩⟩
 ·replace hS:=hS.trans hS';clear hS';obtain ⟨hli,hun⟩:=b2t (hRE.symm.trans he);have hbd:=a8c hun;obtain ⟨hr,sp2,hsp2,hspl,hlv⟩:=a1V hli;obtain rfl:sp=sp2:=by omega
  rw [xh3,xe6 he,he];rw [xf4] at hS;obtain ⟨x,hx⟩:∃ x,k'.sp[sp]?=some x:=by
   have h1:k'.K.spaces.length=k'.sp.length:=xi3 _;rw [hk'] at h1;unfold a1J a2S at h1;dsimp only at h1;rw [xa7] at h1;exact j4 (by omega)
  have hSp:=hS.perm (List.Perm.append_left _ xl8);have b1:=hSp.ownBs 2 rfl rfl (k:=0);have b2:=hSp.ownBs 1 rfl rfl (k:=0);have hfo:=b0I (p:=unP page pages) (kf:=65) (caps:=[.pointer (some ⟨_,0,none⟩),.pointer (some ⟨_,0,none⟩)]) hS (KRo.own hS) hx (fun e _ w' _ h=>b4a b1 b2 h hbd e) (fun i e he _=>b55 hr hspl hk' hx _ i e he);clear hSp b1 b2
  repeat' (first|(with_reducible apply d5 c9);rfl;rfl;rfl|refine yDn (by with_reducible constructor) ?_|(with_reducible apply i6);rfl;rfl)
  refine a1d (first:=[]) (caps:=[]) rfl rfl hfo rfl ?_;clear hfo;rintro _ w4 ⟨rfl,ve,h2⟩;replace hS:=St.transM hS h2;clear h2;rw [<- b2B hx (unP page pages) ve] at hS;have hkd:=(b7l hx (unP page pages) ve).trans (by rw [hk']);generalize fgV k' sp x (unP page pages) ve=kd at hS hkd;have hV:=(WkV.own hS).ker;rw [<- xf4] at hS;replace hS:=hS.perm xl8;dsimp only [List.cons_append,List.nil_append] at hS;obtain ⟨sh2,fr2,sl2,sp2,hand2,vsh2,vfr2,vsl2,vsp2⟩:=kd;obtain ⟨q1,d1,rfl⟩:∃ p c,vsh2=.slice p sh2.length c:=hV.sh.sl.len;obtain ⟨q2,d2,rfl⟩:∃ p c,vfr2=.slice p fr2.length c:=hV.fr.len;obtain ⟨q3,d3,rfl⟩:∃ p c,vsl2=.slice p sl2.length c:=hV.sl.len;obtain ⟨q4,d4,rfl⟩:∃ p c,vsp2=.slice p sp2.length c:=hV.sp.len;unfold wkS wkB at hS;dsimp only [List.cons_append,List.nil_append] at hS
  repeat' (first|(with_reducible apply d5 c9);rfl;rfl;rfl|refine yDn (by with_reducible constructor) ?_|(with_reducible apply d7 hS c9 (i:=0));(iterate 8 rfl);exact (rfl:_=[_,_,_,_,_]);clear hS;intro w' hS;simp only [List.set] at hS|(with_reducible apply a1c c9);rfl;rfl;rfl;refine ⟨_,hS.blkRk 4 0 5 rfl,rfl,?_⟩)
  (apply a0i;repeat (first|exact ResL.nil|apply ResL.tmp;rfl|apply ResL.cell;rfl;(apply Ld.st c9;rfl;exact hS.blkR 0 rfl;rfl)))
  exact ⟨_,rfl,hkd,xd1 hS.drop.drop.drop.drop.drop.drop⟩
theorem a7u {α:Type} {e:α} {X E E' R:List α} (hE:E.Perm (e::E')):(X++(E++R)).Perm (e::(X++(E'++R))):=((hE.append_right R).append_left X).trans xm1
def unY (l:Bool) (A:List Ar) (va:Value) (L:List En) (v:Value):Sp:=⟨⟨l,A,L⟩,va,v⟩
def unV (k:KV) (S:List Sp) (sp:Nat) (y:Sp):KV:={ k with sp:=S.set sp y }
theorem b5o (k:KV) (S:List Sp) (sp:Nat) (y:Sp) (e:En):a0x (unV k S sp y) e=unV (a0x k e) S sp y:=a8J _ k e
theorem b4j {α:Type} {p:α->Bool} {l:List α} {i:Nat} {e:α} (h:l[i]?=some e) (hp:p e=true):(l.take (i + 1)).filter p=(l.take i).filter p++[e]:=by
 rw [o7 h,xj2,xj4 hp];rfl
theorem b6a {α:Type} {p:α->Bool} {l:List α} {i:Nat} {e:α} (h:l[i]?=some e) (hp:p e=false):(l.take (i + 1)).filter p=(l.take i).filter p:=by
 rw [o7 h,xj2,xj5 (by rw [hp];simp),xk3,List.append_nil]
theorem b3K {F:Nat->Prop} {w0 w:World} {a b c:Asr} {g:Nat} {k:KV} {R:List Asr} (hS:St F w0 w (a::b::c::(.blk g (kvC k)::frA k::slA k::a20 k::(k.sp.map x9++R)))):St F w0 w (rkS g k++(R++[a,b,c])):=by
 refine hS.perm ?_;have h:([a,b,c]++(rkS g k++R)).Perm ((rkS g k++R)++[a,b,c]):=xl8;rw [xf4] at h;exact h
theorem a9m {w:World} {k:KV} (hK:KerV w k) (space page pages:Int):Fn Tryz.prog 20 [.agg (kvC k).toArray,.int .i64 space,.int .i64 page,.int .i64 pages] w (fun v w'=>∃ k',v=.tuple #[.agg (kvC k').toArray,.int .i64 (arE k.K space fun A=>r5 A page pages)]/\k'.K=unR k.K space page pages/\Came w w' k'):=by
 have hli:=fun w1 (h:KerV w1 k)=>a6b h space;have hown:=fun w1 (h:KerV w1 k) (hr:Right k.K)=>a7V h (b0e hr);obtain ⟨RE,hRE⟩:∃ e,e=arE k.K space (fun A=>r5 A page pages):=⟨_,rfl⟩;unfold unR;rw [<- hRE];unfold arE at hRE;obtain ⟨sh,fr,sl,sps,hand,vsh,vfr,vsl,vsp⟩:=k;have hK0:=hK;obtain ⟨k1,k2,k3,k4,k5⟩:=hK;dsimp only at k1 k2 k3 k4 k5;obtain ⟨p1,c1,rfl⟩:=k1.sl.len;obtain ⟨p2,c2,rfl⟩:=k2.len;obtain ⟨p3,c3,rfl⟩:=k3.len;obtain ⟨p4,c4,rfl⟩:=k4.len;have hlS:(KV.K ⟨sh,fr,sl,sps,hand,.slice p1 sh.length c1,.slice p2 fr.length c2,.slice p3 sl.length c3,.slice p4 sps.length c4⟩).spaces.length=sps.length:=xi3 _;have hlL:(KV.K ⟨sh,fr,sl,sps,hand,.slice p1 sh.length c1,.slice p2 fr.length c2,.slice p3 sl.length c3,.slice p4 sps.length c4⟩).slots.length=sl.length:=rfl;have hlX:∀ {i:Nat} {x:Sp},sps[i]?=some x->(KV.K ⟨sh,fr,sl,sps,hand,.slice p1 sh.length c1,.slice p2 fr.length c2,.slice p3 sl.length c3,.slice p4 sps.length c4⟩).spaces[i]?=some x.s:=fun h=>a1e h;generalize hKK:KV.K ⟨sh,fr,sl,sps,hand,.slice p1 sh.length c1,.slice p2 fr.length c2,.slice p3 sl.length c3,.slice p4 sps.length c4⟩=K at hli hown hRE hlS hlL hlX |-;rw [hlL] at hRE;unfold kvC at hli hown |-;dsimp only at hli hown |-;have hno:∀ {w1 Γ1},St nF w w1 Γ1->∀ {e:Int} {T:Ker},e≠0->∃ k':KV,Value.tuple #[.agg #[.slice none 0 0,.slice none 0 0,.slice none 0 0,.slice none 0 0,.int .i64 0],.int .i64 e]=.tuple #[.agg [k'.vsh,k'.vfr,k'.vsl,k'.vsp,.int .i64 k'.hand].toArray,.int .i64 e]/\k'.K=(if e=0 then T else b2I)/\Came w w1 k':=by
  intro w1 Γ1 h e T he;exact ⟨kv0,rfl,by rw [xe7 he];rfl,xd4 ⟨rfl,h.sub (xi4 _)⟩⟩
 refine yEn Tryz.func20 Tryz.ntmps20 (by kernel_rfl) (by kernel_rfl) rfl rfl ?_;have hS:=St.start w;by_cases he:a0c K space=0
 ·obtain ⟨hr,sp,rfl,hspl,hlv⟩:=a1V he;rw [xe6 he,xh3] at hRE;rw [xh3];have hd:decide (a0c K (sp:Int)=0)=true:=xi8 he;rw [he] at hli;obtain ⟨x,hx⟩:∃ x,sps[sp]?=some x:=j4 (by omega);have hxm:=xc8 hx;have hsc0:=hlX hx;obtain ⟨hsc,hel⟩:=a1F hr x.s (xc8 hsc0);have hxA:m6 K sp=x.s.areas:=by unfold m6;rw [z7 hsc0]
  have hra:=a6k hsc0 (r5 x.s.areas page pages).1;rw [hxA] at hRE |-;dsimp only at hRE
  try dsimp only
  have hsp4:=hr.cnt;have hspl2:=f7 hx;obtain ⟨pa,ca,hva⟩:=(k5 x hxm).ar.len;obtain ⟨bs,os,hvp⟩:∃ b o,p4=some ⟨b,o,none⟩:=by
   obtain ⟨b,o,h,-⟩:=k4.at_ (i:=sp) (by omega);exact ⟨b,o,h⟩
  subst hvp;have hrowS:=f8 (f:=spC) hx;unfold spC at hrowS;rw [hva] at hrowS;have hspV:∀ {w1 Γ1},St nF w w1 Γ1->Sl nF w1 3 (.slice (some ⟨bs,os,none⟩) sps.length c4) (sps.map fun q=>[.bool q.s.live,q.va,q.ve]):=fun h=>(hK0.now h).sp;have hmi:=fun w1 Γ1 (h:St nF w w1 Γ1)=>a90 (w:=w1) (L:=x.s.areas) page pages (by have:=((k5 x hxm).ar.now h);rw [hva] at this;exact this);by_cases h2:(r5 x.s.areas page pages).2=0;rotate_left
  ·rw [xe7 h2] at hRE;have hd2:decide ((r5 x.s.areas page pages).2=0)=false:=xi7 h2;rw [hRE];generalize r5 x.s.areas page pages=RR at hmi h2 hd2 |-
   repeat' (first|(with_reducible apply d5 c9);rfl;rfl;rfl|(with_reducible apply d6);rfl;(first|apply Ld.sl c9;rfl;exact hS.blkC 1 rfl rfl|apply Ld.st c9;rfl;exact hS.blkR 1 rfl;rfl);rfl|(with_reducible apply m8 c9);rfl;rfl;rfl;rfl;omega;rfl|(with_reducible apply v8 c9);rfl;rfl;exact (rfl:_=some [_,_,_,_,_]);rfl|refine yDn (by with_reducible constructor) ?_|(with_reducible apply i6);rfl;rfl|(with_reducible apply j6 hS);rfl;rfl;rfl;clear hS;intro g w' hS|(with_reducible apply f5 hS c9);rfl;rfl;rfl;clear hS;intro g w' hS|(with_reducible apply d7 hS c9 (i:=1));(iterate 8 rfl);exact (rfl:_=[_,_,_,_,_]);clear hS;intro w' hS;simp only [List.set] at hS|(with_reducible apply a0j);rfl;all_goals (intro hb hp;try (exfalso;omega))|(with_reducible apply f9 hS);rfl;rfl;rfl;refine ⟨_,hli _ (hK0.now hS),?_⟩;clear hS;intro w' hS|(with_reducible apply a0K c9);rfl;rfl;rfl;refine ⟨_,(hspV hS).cel hrowS rfl,?_⟩|(with_reducible apply l9);rfl;rfl;rfl;refine ⟨_,hmi _ _ hS,?_⟩;rintro _ w' ⟨u,rfl,hS'⟩;replace hS:=hS.transA hS';simp only [t5] at hS;clear hS')
   (apply a0i;repeat (first|exact ResL.nil|apply ResL.tmp;rfl|apply ResL.cell;rfl;(apply Ld.st c9;rfl;exact hS.blkR 1 rfl;rfl)))
   exact hno hS h2
  rw [xe6 h2] at hRE;have hbd:=a8c h2;obtain ⟨hck,hsum⟩:=a6V h2;rw [xe7 (by rw [hra];have:=hr.room;omega)] at hRE;rw [hRE,xe6 rfl];unfold a3u at hmi;rw [h2] at hmi;generalize (r5 x.s.areas page pages).1=A2 at hmi |-
  repeat' (first|(with_reducible apply d5 c9);rfl;rfl;rfl|(with_reducible apply d6);rfl;(first|apply Ld.sl c9;rfl;exact hS.blkC 1 rfl rfl|apply Ld.st c9;rfl;(first|exact hS.blkR 1 rfl|exact hS.blkR 2 rfl);rfl);rfl|(with_reducible apply m8 c9);rfl;rfl;rfl;rfl;omega;rfl|refine yDn (by with_reducible constructor) ?_|(with_reducible apply i6);rfl;rfl|(with_reducible apply i9);rfl;rfl|(with_reducible apply j6 hS);rfl;rfl;rfl;clear hS;intro g w' hS|(with_reducible apply f5 hS c9);rfl;rfl;rfl;clear hS;intro g w' hS|(with_reducible apply f9 hS);rfl;rfl;rfl;refine ⟨_,hli _ (hK0.now hS),?_⟩;clear hS;intro w' hS|(with_reducible apply a0K c9);rfl;rfl;rfl;refine ⟨_,(hspV hS).cel hrowS rfl,?_⟩|((with_reducible apply l9);rfl;rfl;rfl;refine ⟨_,hmi _ _ hS,?_⟩;rintro _ w' ⟨u,rfl,hS'⟩;replace hS:=hS.transA hS';simp only [t5] at hS;clear hS';obtain ⟨pu,cu,rfl⟩:=hS.rowSlice 0 rfl;rw [xi3] at hS |-)|(with_reducible apply l9);rfl;rfl;rfl;refine ⟨_,hown _ (hK0.now hS) hr,?_⟩;rintro _ w2 ⟨k2,rfl,hk2,h3⟩)
  replace h3:=h3.perm (a5i k2);replace hS:=hS.trans h3;clear h3 hown hli hmi;have hV2:=KerV.own hS;replace hS:=hS.perm xl8;dsimp only [List.cons_append,List.nil_append] at hS;have hsp2:k2.sp.length=sps.length:=by rw [<- hlS,<- hk2];exact (xi3 _).symm
  obtain ⟨z,hz⟩:=j4 (l:=k2.sp) (i:=sp) (by omega);have hzs:z.s=x.s:=by
   have h:=a1e hz;rw [hk2,hsc0] at h;exact (Option.some.inj h).symm
  obtain ⟨b2,o2,e2,hv4⟩:=hV2.sp.form1 hz;have hvZ:=hV2.spv z (xc8 hz);obtain ⟨py,cy,hya⟩:=hvZ.ar.len;obtain ⟨pe,ce,hye⟩:=hvZ.en.len;have hel2:x.s.entries.length<=255:=by omega
  rw [<- hk2] at hr;have hfg:=fun (p:En->Bool)=>b3q hr hz p;rw [hzs] at hya hye hfg;have hEnZ:x9 z=.row 82 3 (.slice pe x.s.entries.length ce) (x.s.entries.map enC):=by
   unfold x9;rw [hye,hzs]
  have hKun:∀ (A:List Ar) (p:En->Bool) (va ve:Value),(unV (a0E k2 p x.s.entries) k2.sp sp (unY x.s.live A va (x.s.entries.filter fun e=>!p e) ve)).K=a4j (a1J K sp A) sp p:=fun A p va ve=>by
   have hsf:=a1m (x.s.entries.filter p) k2;rw [<- hk2];unfold a4j fgK;have h1:a0I (a1J k2.K sp A) sp=⟨x.s.live,A,x.s.entries⟩:=by
    refine z7 ?_;unfold a1J a2S;rw [xd7,xe6 rfl,xe6 (f7 (a1e hz)),z7 (a1e hz)];unfold w9;rw [z7 (a1e hz),hzs]
   have h2:w9 (a1J k2.K sp A) sp=x.s.entries:=by unfold w9;rw [h1]
   rw [h1,h2];have h3:a1J k2.K sp A=KV.K { k2 with sp:=k2.sp.set sp (unY x.s.live A va x.s.entries ve) }:=by
    unfold a1J a2S;unfold w9;rw [z7 (a1e hz),hzs];unfold KV.K;dsimp only;rw [xk6];rfl
   rw [h3,<- a7Z,a55];unfold unV a0E;generalize List.foldl a0x k2 _=kf at hsf |-;obtain ⟨a1,a2,a3,a4,a5,a6,a7,a8,a9⟩:=kf;obtain ⟨d1,d2,d3,-,-,-,-⟩:=hsf;dsimp only at d1 d2 d3;subst d1 d2 d3;unfold KV.K;dsimp only;rw [xk6,xk6,xm0];rfl
  obtain ⟨sh2,fr2,sl2,sp2,hand2,vsh2,vfr2,vsl2,vsp2⟩:=k2;dsimp only at hsp2 hv4 hz hKun;subst hv4;obtain ⟨q1,d1,rfl⟩:∃ p c,vsh2=.slice p sh2.length c:=hV2.sh.sl.len;obtain ⟨q2,d2,rfl⟩:∃ p c,vfr2=.slice p fr2.length c:=hV2.fr.len;obtain ⟨q3,d3,rfl⟩:∃ p c,vsl2=.slice p sl2.length c:=hV2.sl.len;have hspl3:=f7 hz;unfold frA slA a20 a0d at hS;dsimp only [List.cons_append,List.nil_append] at hS;have hos:o2=0:=by
   obtain ⟨gg,hgg⟩:=hS.rowSome 5 rfl (xm8 (xf9 _) hspl3);injection hgg with hgg
   injection hgg
  subst hos;have hrowZ:=f8 (f:=spC) hz;unfold spC at hrowZ;rw [hya,hzs,hye] at hrowZ;obtain ⟨y,hy⟩:∃ y:Sp,y=unY x.s.live A2 (.slice pu A2.length cu) x.s.entries (.slice pe x.s.entries.length ce):=⟨_,rfl⟩;have hzy:(sp2.set sp y)[sp]?=some y:=by rw [xd7,xe6 rfl,xe6 hspl3]
  have e1:(sp2.map spC).set sp (p9 [.bool x.s.live,.slice py x.s.areas.length cy,.slice pe x.s.entries.length ce] 1 [.slice pu A2.length cu])=(sp2.set sp y).map spC:=by rw [xk6,hy];rfl
  repeat' (first|(with_reducible apply d5 c9);rfl;rfl;rfl|(with_reducible apply d6);rfl;(apply Ld.sl c9;rfl;exact hS.blkC 0 rfl rfl);rfl|(with_reducible apply m8 c9);rfl;rfl;rfl;rfl;omega;rfl|refine yDn (by with_reducible constructor) ?_|(with_reducible apply f5 hS c9);rfl;rfl;rfl;clear hS;intro g w' hS|(with_reducible apply d7 hS c9 (i:=0));(iterate 8 rfl);exact (rfl:_=[_,_,_,_,_]);clear hS;intro w' hS;simp only [List.set] at hS|(with_reducible apply t3 hS c9 (i:=6));(iterate 4 rfl);assumption;(iterate 5 rfl);intro w' hS';simp only [List.set] at hS';clear hS;have hS:=hS';clear hS')
  rw [e1] at hS;have hrowY:=f8 (f:=spC) hzy;rw [hy] at hrowY;unfold spC unY at hrowY;dsimp only at hrowY;rw [<- show y=⟨⟨x.s.live,A2,x.s.entries⟩,.slice pu A2.length cu,.slice pe x.s.entries.length ce⟩ from hy] at hrowY
  repeat' (first|(with_reducible apply d5 c9);rfl;rfl;rfl|refine yDn (by with_reducible constructor) ?_|(with_reducible apply d6);rfl;(apply Ld.sl c9;rfl;exact hS.rowCj 6 rfl hrowY rfl);rfl)
  obtain ⟨yk,hyk⟩:∃ yk:List En->Value->Sp,yk=unY x.s.live A2 (.slice pu A2.length cu):=⟨_,rfl⟩;have e2:((sp2.set sp y).map spC).set sp (p9 [.bool x.s.live,.slice pu A2.length cu,.slice pe x.s.entries.length ce] 2 [.slice none 0 0])=(sp2.set sp (yk [] (.slice none 0 0))).map spC:=by rw [xk6,xk6,xm0,hyk];rfl
  repeat' (first|(with_reducible apply d5 c9);rfl;rfl;rfl|refine yDn (by with_reducible constructor) ?_|(with_reducible apply t3 hS c9 (i:=6));(iterate 4 rfl);assumption;(iterate 5 rfl);intro w' hS';simp only [List.set] at hS';clear hS;have hS:=hS';clear hS')
  rw [e2] at hS;clear e1 e2 hrowY hzy hy y;have hzk:∀ L v,(sp2.set sp (yk L v))[sp]?=some (yk L v):=fun L v=>by rw [xd7,xe6 rfl,xe6 hspl3]
  have hyA:∀ L v,a17 (yk L v)=.row 136 4 (.slice pu A2.length cu) (A2.map arC):=fun L v=>by rw [hyk];rfl
  have hyE:∀ L v,x9 (yk L v)=.row 82 3 v (L.map enC):=fun L v=>by rw [hyk];rfl
  have hyS:∀ L v,spC (yk L v)=[.bool x.s.live,.slice pu A2.length cu,v]:=fun L v=>by rw [hyk];rfl
  have hA:=a0l a17 hz;have hB:=a0l a17 (hzk [] (.slice none 0 0));rw [a0Z,hyA] at hB;have hE:=a0l x9 hz;have hF:=fun L v=>a0l x9 (hzk L v);simp only [a0Z] at hF;replace hS:=hS.reorderT 7 [1,2,3,0,4,5,6] (by decide) rfl;simp only [t5,xl1,xl2] at hS;replace hS:=(hS.perm (a4e (X:=[_,_,_,_,_]) hA hB)).drop;replace hS:=hS.perm (a7u (X:=[_,_,_,_,_,_]) hE);replace hS:=hS.addNil 82 3;rw [show Asr.row 82 3 (.slice none 0 0) []=x9 (yk [] (.slice none 0 0)) from (hyE [] (.slice none 0 0)).symm] at hS;replace hS:=hS.perm (a7u (X:=[_,_,_,_,_,_,_]) (hF [] (.slice none 0 0))).symm;dsimp only [List.cons_append,List.nil_append] at hS
  rename Nat=>g
  obtain ⟨k2,hk2e⟩:∃ k2:KV,k2=⟨sh2,fr2,sl2,sp2,hand2,.slice q1 sh2.length d1,.slice q2 fr2.length d2,.slice q3 sl2.length d3,.slice (some ⟨b2,0,none⟩) sp2.length e2⟩:=⟨_,rfl⟩;rw [<- hk2e] at hfg hKun;replace hS:=b39 (k:=unV k2 sp2 sp (yk [] (.slice none 0 0))) (g:=g) (by rw [hk2e];exact hS);have hrest:∀ (l:List En) L v,a0d (unV (a0E k2 (unP page pages) l) sp2 sp (yk L v))=a0d (unV k2 sp2 sp (yk [] (.slice none 0 0))):=fun l L v=>by
   have hsf:=a1m (l.filter (unP page pages)) k2;unfold a0d unV a0E;dsimp only;rw [hsf.vsh,hsf.sh,xk6,xk6,hyA,hyA]
  have hEn:∀ (L R:List Asr) (a b:Asr) (w1:World),St nF w w1 (L++(R++[x9 z,a,b]))->Sl nF w1 3 (.slice pe x.s.entries.length ce) (x.s.entries.map enC):=fun L R a b w1 h=>by
   rw [hEnZ] at h;exact h.slMem (xe2 _ (xe2 _ xc4))
  refine n9 (F:=nF) (w0:=w) (X:=Nat×Value) (fun x=>[(15,.int .i64 (x.1:Nat))]) [2,3,8,12,13,14] rfl (fun v=>rkS g (unV (a0E k2 (unP page pages) (x.s.entries.take v.1)) sp2 sp (yk ((x.s.entries.take v.1).filter fun e=>!unP page pages e) v.2))) (fun v=>v.1<=x.s.entries.length) (fun v=>x.s.entries.length - v.1) (0,.slice none 0 0) (by exact Fr.sub_of rfl) (xf9 _) hS ?_;clear hS;rintro ⟨i,ve⟩ w4 hi hS;dsimp only at hi hS |-;by_cases hlt:i < x.s.entries.length
  ·have hdl:decide ((i:Int) < (x.s.entries.length:Int))=true:=xi8 (by omega);obtain ⟨e,he2⟩:=j4 (l:=x.s.entries) (i:=i) (by omega);obtain ⟨b,off,rfl,-⟩:=(hEn _ _ _ _ _ hS).at_ hlt;have hrowE:=f8 (f:=enC) he2;have h:=hfg (unP page pages) i e he2;have hent:a5w (unV (a0E k2 (unP page pages) (x.s.entries.take i)) sp2 sp (yk ((x.s.entries.take i).filter fun e=>!unP page pages e) ve)) e:=⟨h.1,h.2,h.3⟩;clear h;have hnx:=a6K he2 k2 (unP page pages);unfold enC at hrowE
   cases hp:unP page pages e with
   |true=>
    have hd1:decide (page<=e.page/\e.page<=page + pages - 1)=true:=by
     unfold unP at hp;rw [xb1,xb2,xb2] at hp;exact xi8 (by omega)
    repeat' (first|(with_reducible apply d5 c9);rfl;rfl;rfl|(with_reducible apply m8 c9);rfl;rfl;rfl;rfl;omega;rfl|(with_reducible apply j7);rfl;rfl;omega;omega;rfl|(with_reducible apply a0w);rfl;rfl;omega;omega;rfl|refine yDn (by with_reducible constructor) ?_|(with_reducible apply i6);rfl;assumption|(with_reducible apply a89 c9);rfl;rfl;rfl;refine ⟨_,(hEn _ _ _ _ _ hS).cel0 hrowE rfl,?_⟩|(with_reducible apply f9 hS);rfl;rfl;rfl;refine ⟨_,n6 _ _ _ _,?_⟩;clear hS;intro w' hS|(with_reducible apply a1c c9);rfl;rfl;rfl;refine ⟨_,(hEn _ _ _ _ _ hS).rng hrowE,rfl,?_⟩)
    have hlet:=b1x hS hent;unfold enC at hlet;refine a1d (first:=[]) (caps:=[]) rfl rfl hlet rfl ?_;clear hlet;rintro _ w5 ⟨rfl,h5⟩;replace hS:=St.transM hS h5;clear h5
    repeat' (first|(with_reducible apply d5 c9);rfl;rfl;rfl|(with_reducible apply j7);rfl;rfl;omega;omega;rfl|refine yDn (by with_reducible constructor) ?_)
    refine i5 (i + 1,ve) (by exact Fr.sub_of rfl) (by dsimp only;omega) ?_ (by dsimp only;omega);dsimp only;rw [hnx,xe6 hp,b6a he2 (by rw [hp];rfl),<- b5o];exact hS
   |false=>
    have hd1:decide (page<=e.page/\e.page<=page + pages - 1)=false:=by
     refine xi7 fun h=>?_;unfold unP at hp;rw [xi8 h.1,xi8 (show e.page < page + pages by omega)] at hp
     cases hp
    repeat' (first|(with_reducible apply d5 c9);rfl;rfl;rfl|(with_reducible apply m8 c9);rfl;rfl;rfl;rfl;omega;rfl|(with_reducible apply j7);rfl;rfl;omega;omega;rfl|(with_reducible apply a0w);rfl;rfl;omega;omega;rfl|refine yDn (by with_reducible constructor) ?_|(with_reducible apply i6);rfl;assumption|(with_reducible apply i9);rfl;assumption|(with_reducible apply a89 c9);rfl;rfl;rfl;refine ⟨_,(hEn _ _ _ _ _ hS).cel0 hrowE rfl,?_⟩|(with_reducible apply f9 hS);rfl;rfl;rfl;refine ⟨_,n6 _ _ _ _,?_⟩;clear hS;intro w' hS)
    have hLl:((x.s.entries.take i).filter fun e=>!unP page pages e).length<=255:=by
     have h1:=xm2 (fun e=>!unP page pages e) (x.s.entries.take i);have h2:(x.s.entries.take i).length<=i:=List.length_take_le _ _;omega
    have hnL:=b4j (p:=fun e=>!unP page pages e) he2 (by rw [hp];rfl);rw [xe7 (by rw [hp];simp)] at hnx;have hsf:=a1m ((x.s.entries.take i).filter (unP page pages)) k2;replace hsf:a3X k2 (a0E k2 (unP page pages) (x.s.entries.take i)):=hsf;replace hS:=b0t hS;clear hent;generalize ((x.s.entries.take i).filter fun e=>!unP page pages e)=L at *;generalize a0E k2 (unP page pages) (x.s.entries.take i)=kf at *;have hrowK:=f8 (f:=spC) (hzk L ve);rw [hyS] at hrowK;obtain ⟨b1,b2',b3,b4,b5,b6,b7,b8,b9⟩:=kf;obtain ⟨c1,c2,c3,c4,c5,c6,c7⟩:=hsf;rw [hk2e] at c1 c2 c3 c4 c5 c6 c7;dsimp only at c1 c2 c3 c4 c5 c6 c7;subst c1 c2 c3 c4 c5 c6 c7;unfold unV kvC frA slA a20 at hS;dsimp only at hS;rw [hEnZ] at hS;have hoff:off=0:=by
     obtain ⟨gg,hgg⟩:=hS.rowSome 0 rfl (by omega);injection hgg with hgg
     injection hgg
    subst hoff;replace hS:=hS.perm (a7u (X:=[_,_,_,_,_,_,_]) (hF L ve));rw [hyE] at hS;obtain ⟨pv,cv,rfl⟩:=hS.rowSlice 0 rfl;rw [xi3] at hS hrowK;dsimp only [List.cons_append,List.nil_append] at hS;replace hS:=hS.reorderT 8 [7,1,0,2,3,4,5,6] (by decide) rfl;simp only [t5,xl1,xl2] at hS;refine a4d 2 13 14 rfl hS (by kernel_rfl) ?_;intro w6 hS';clear hS;have hS:=hS';clear hS';simp only [xl5,xl6];have hH:=hS.sub (xl7 [_,_] _)
    ((with_reducible apply q8 (nn 0) c9);rfl;kernel_rfl;exact (fun _ _ _ h=>h);exact xd1 hH;rfl;rfl)
    ((with_reducible apply q8 (nn 1) c9);rfl;kernel_rfl;exact (fun _ _ _ h=>h);exact xd1 hH;rfl;rfl)
    ((with_reducible apply q8 (nn 2) c9);rfl;kernel_rfl;exact (fun _ _ _ h=>h);exact xd1 hH;rfl;rfl)
    ((with_reducible apply q8 (nn 3) c9);rfl;kernel_rfl;exact (fun _ _ _ h=>h);exact xd1 hH;rfl;rfl)
    ((with_reducible apply s6 (nn 4));rfl;kernel_rfl;kernel_rfl;rfl;exact (fun _ _ _ h=>h);exact hH;rfl;(intro w2 hw2;(replace hw2:St _ _ w2 _:=hw2;apply Ld.sl c9;rfl;exact hw2.rowCj 0 rfl hrowK rfl));rfl)
    ((with_reducible apply q8 (nn 5) c9);rfl;kernel_rfl;exact (fun _ _ _ h=>h);exact xd1 hH;rfl;rfl)
    ((with_reducible apply q8 (nn 6) c9);rfl;kernel_rfl;exact (fun _ _ _ h=>h);exact xd1 hH;rfl;rfl)
    ((with_reducible apply a4L (nn 7));rfl;kernel_rfl;kernel_rfl;kernel_rfl;rfl;exact (fun _ _ _ h=>h);exact xd1 hH;(intro a ha;exact a7y c9 (j:=i) rfl rfl rfl rfl (by omega) a ha _);rfl)
    ((with_reducible apply s6 (nn 8));rfl;kernel_rfl;kernel_rfl;rfl;exact (fun _ _ _ h=>h);exact hH;rfl;(intro w2 hw2;(replace hw2:St _ _ w2 _:=hw2;(apply Ld.st c9;rfl;exact hw2.rowR 1 rfl (by assumption);rfl)));rfl)
    refine z9 (i:=9) (by kernel_rfl) ?_;refine t9 rfl (a0b hS c9 rfl rfl rfl rfl rfl rfl) rfl ?_;rintro _ w' ⟨g9,rfl,hS'⟩;clear hS;have hS:=hS';clear hS';have hH:=hS.drop.sub (xl7 [_,_] _);refine ⟨xd1 (xd1 hH),?_⟩;refine z9 (i:=10) (by kernel_rfl) ?_;refine t9 rfl (a0D hS c9 (i:=3) rfl rfl rfl rfl (hS.rowRo 0 rfl) rfl (by simp only [xi3];omega)) rfl ?_;rintro _ w' ⟨p',c',rfl,hS'⟩;simp only [List.set,xi3] at hS' |-;clear hS;have hS:=hS';clear hS';have hH:=hS.drop.sub (xl7 [_,_] _);refine ⟨xd1 (xd1 hH),?_⟩
    ((with_reducible apply q8 (nn 11) c9);rfl;kernel_rfl;exact (fun _ _ _ h=>h);exact xd1 hH;rfl;rfl)
    ((with_reducible apply q8 (nn 12) c9);rfl;kernel_rfl;exact (fun _ _ _ h=>h);exact xd1 hH;rfl;rfl)
    refine z9 (i:=13) (by kernel_rfl) ?_;refine a2N (Φ:=fun _ w'=>St _ _ w' _) rfl (a3a hS c9 (i:=1) (kk:=sp) (j:=2) rfl rfl rfl rfl rfl hrowK (a08 rfl) rfl (xd2 _) rfl) ?_;intro _ w' hS';simp only [List.set,p9] at hS';clear hS;have hS:=hS';clear hS';refine ⟨xd4 rfl,?_⟩;refine a3F (by kernel_rfl) ?_
    repeat' (first|(with_reducible apply d5 c9);rfl;rfl;rfl|(with_reducible apply j7);rfl;rfl;omega;omega;rfl|refine yDn (by with_reducible constructor) ?_)
    have e3:∀ S:List Sp,((S.set sp (yk L (.slice pv L.length cv))).map spC).set sp [.bool x.s.live,.slice pu A2.length cu,.slice p' (L.length + 1) c']=(S.set sp (yk (L++[e]) (.slice p' (L.length + 1) c'))).map spC:=fun S=>by
     rw [xk6,xk6,xm0,hyS]
    have e4:Asr.row 82 3 (.slice p' (L.length + 1) c') (L.map enC++[[.int .i64 e.page,.int .i64 e.kind,.int .i64 e.at_]])=x9 (yk (L++[e]) (.slice p' (L.length + 1) c')):=by
     rw [hyE,xj3];rfl
    rw [e3,e4,<- hEnZ] at hS;replace hS:=hS.reorderT 9 [3,2,4,5,6,7,8,1] (by decide) rfl;simp only [t5,xl1,xl2] at hS;replace hS:=hS.perm (a7u (X:=[_,_,_,_,_,_,_]) (hF (L++[e]) (.slice p' (L.length + 1) c'))).symm;refine i5 (i + 1,.slice p' (L.length + 1) c') (by exact Fr.sub_of rfl) (by dsimp only;omega) ?_ (by dsimp only;omega);dsimp only;rw [hnx,hnL];exact b3K hS
  ·have hdl:decide ((i:Int) < (x.s.entries.length:Int))=false:=xi7 (by omega);obtain rfl:i=x.s.entries.length:=by omega
   rw [xg1] at hS;have hKf:=hKun A2 (unP page pages) (.slice pu A2.length cu) ve;rw [<- hyk] at hKf;rw [<- hrest x.s.entries (x.s.entries.filter fun e=>!unP page pages e) ve] at hS;generalize unV (a0E k2 (unP page pages) x.s.entries) sp2 sp (yk (x.s.entries.filter fun e=>!unP page pages e) ve)=kd at hS hKf;replace hS:=b0t hS;have hV:=KerV.own (k:=kd) (Γ:=[]) (by rw [List.append_nil];exact hS.drop.drop.drop.drop);obtain ⟨sh4,fr4,sl4,sp4,hand4,vsh4,vfr4,vsl4,vsp4⟩:=kd;obtain ⟨r1,f1,rfl⟩:∃ p c,vsh4=.slice p sh4.length c:=hV.sh.sl.len;obtain ⟨r2,f2,rfl⟩:∃ p c,vfr4=.slice p fr4.length c:=hV.fr.len;obtain ⟨r3,f3,rfl⟩:∃ p c,vsl4=.slice p sl4.length c:=hV.sl.len;obtain ⟨r4,f4,rfl⟩:∃ p c,vsp4=.slice p sp4.length c:=hV.sp.len;unfold kvC at hS;dsimp only at hS
   repeat' (first|(with_reducible apply d5 c9);rfl;rfl;rfl|(with_reducible apply d6);rfl;(apply Ld.st c9;rfl;exact hS.blkR 3 rfl;rfl);rfl|refine yDn (by with_reducible constructor) ?_|(with_reducible apply i9);rfl;assumption|(with_reducible apply d7 hS c9 (i:=1));(iterate 8 rfl);exact (rfl:_=[_,_,_,_,_]);clear hS;intro w' hS;simp only [List.set] at hS)
   (apply a0i;repeat (first|exact ResL.nil|apply ResL.tmp;rfl|apply ResL.cell;rfl;(apply Ld.st c9;rfl;exact hS.blkR 1 rfl;rfl)))
   exact ⟨_,rfl,hKf,xd1 hS.drop.drop.drop.drop⟩
 ·have hd:decide (a0c K space=0)=false:=xi7 he;rw [xe7 he] at hRE;rw [<- hRE] at he hd hli
  repeat' (first|(with_reducible apply d5 c9);rfl;rfl;rfl|(with_reducible apply d6);rfl;(apply Ld.st c9;rfl;exact hS.blkR 1 rfl;rfl);rfl|(with_reducible apply v8 c9);rfl;rfl;exact (rfl:_=some [_,_,_,_,_]);rfl|refine yDn (by with_reducible constructor) ?_|(with_reducible apply i9);rfl;assumption|(with_reducible apply j6 hS);rfl;rfl;rfl;clear hS;intro g w' hS|(with_reducible apply f5 hS c9);rfl;rfl;rfl;clear hS;intro g w' hS|(with_reducible apply d7 hS c9 (i:=0));(iterate 8 rfl);exact (rfl:_=[_,_,_,_,_]);clear hS;intro w' hS;simp only [List.set] at hS|(with_reducible apply a0j);rfl;all_goals (intro hb hp;try (exfalso;omega))|(with_reducible apply f9 hS);rfl;rfl;rfl;refine ⟨_,hli _ (hK0.now hS),?_⟩;clear hS;intro w' hS)
  (apply a0i;repeat (first|exact ResL.nil|apply ResL.tmp;rfl|apply ResL.cell;rfl;(apply Ld.st c9;rfl;exact hS.blkR 0 rfl;rfl)))
  exact hno hS he
inductive Rs (α:Type) where
 |ok (a:α)
 |no (p:String)
inductive SA where
 |blk (L:List Value)
 |row (e sz:Nat) (rows:List (List Value)) (cap:Nat) (u:Bool)
 |smap (t:Nat) (es:List (Value×Value))
 |siter (l:List UInt8) (pos:Nat)
abbrev SH:=List (Nat×SA)
noncomputable def ifB {α:Type} (b:Bool) (x y:α):α:=@Bool.rec (fun _=>α) y x b
noncomputable def o3 {α:Type} (l:List (Nat×α)) (i:Nat):Option α:=@List.rec (Nat×α) (fun _=>Option α) none (fun p _ ih=>@Bool.rec (fun _=>Option α) ih (some p.2) (Nat.beq p.1 i)) l
noncomputable def a3v {α:Type} (l:List α):Nat->Option α:=@List.rec α (fun _=>Nat->Option α) (fun _=>none) (fun p _ ih i=>@Nat.rec (fun _=>Option α) (some p) (fun i _=>ih i) i) l
inductive BT (α:Type) where
 |nil
 |node (k:Nat) (v:α) (l r:BT α)
noncomputable def BT.get {α:Type} (t:BT α) (i:Nat):Option α:=@BT.rec α (fun _=>Option α) none (fun k v _ _ l r=>@Bool.rec (fun _=>Option α) (@Bool.rec (fun _=>Option α) r l (Nat.blt i k)) (some v) (Nat.beq i k)) t
noncomputable def a2u (H:SH) (i:Nat) (t:SA):SH:=@List.rec (Nat×SA) (fun _=>SH) [] (fun p r ih=>@Bool.rec (fun _=>SH) (p::ih) ((p.1,t)::r) (Nat.beq p.1 i)) H
noncomputable def a0R {α:Type} (l:List (Nat×α)) (i:Nat):List (Nat×α):=@List.rec (Nat×α) (fun _=>List (Nat×α)) [] (fun p _ ih=>@Bool.rec (fun _=>List (Nat×α)) (p::ih) ih (Nat.beq p.1 i)) l
noncomputable def a15 (H:SH) (i:Nat) (t:SA):SH:=@List.rec (Nat×SA) (fun _=>SH) [(i,t)] (fun p r ih=>@Bool.rec (fun _=>SH) (p::ih) ((i,t)::p::r) (Nat.blt p.1 i)) H
def cOk:Value->Bool
 |.bool _|.int _ _|.string _|.pointer none|.slice none _ _|.map none|.nilFunc|.nilIface=>true
 |_=>false
noncomputable def sEv (E:Fr):Operand->Option Value
 |.tmp t=>o3 E t
 |.const v=>ifB (cOk v) (some v) none
 |.func f=>some (.func (.func f) #[] #[])
 |.global _=>none
noncomputable def b1b (E:Fr) (l:List Operand):Option (List Value):=@List.rec Operand (fun _=>Option (List Value)) (some []) (fun x _ ih=>match sEv E x,ih with
  |some v,some vs=>some (v::vs)
  |_,_=>none) l
noncomputable def b3Z (E:Fr) (l:List (Nat×Operand)):Option (List (Nat×Value)):=@List.rec (Nat×Operand) (fun _=>Option (List (Nat×Value))) (some []) (fun x _ ih=>match sEv E x.2,ih with
  |some v,some vs=>some ((x.1,v)::vs)
  |_,_=>none) l
noncomputable def a6H (k:IntKind) (n:Int):Int:=match k,n with
 |.i64,.ofNat m=>ifB (Nat.blt m 9223372036854775808) (.ofNat m) (IntKind.i64.wrap (.ofNat m))
 |k,n=>k.wrap n
def b0j (f:(n:Nat)->BitVec n->BitVec n->BitVec n) (k:IntKind) (m n:Int):Value:=.int k (k.wrap (f k.bits (BitVec.ofInt k.bits m) (BitVec.ofInt k.bits n)).toNat)
noncomputable def a9A (op:BinOp) (k:IntKind) (m n:Int):Option Value:=match op with
 |.add=>some (.int k (a6H k (m + n)))
 |.sub=>some (.int k (a6H k (m - n)))
 |.mul=>some (.int k (a6H k (m * n)))
 |.quo=>ifB (decide (n=0)) none (some (.int k (a6H k (m.tdiv n))))
 |.rem=>ifB (decide (n=0)) none (some (.int k (m.tmod n)))
 |.and=>some (b0j (fun _ a b=>a &&& b) k m n)
 |.or=>some (b0j (fun _ a b=>a|||b) k m n)
 |.xor=>some (b0j (fun _ a b=>a ^^^ b) k m n)
 |.lss=>some (.bool (decide (m < n)))
 |.leq=>some (.bool (decide (m<=n)))
 |.gtr=>some (.bool (decide (n < m)))
 |.geq=>some (.bool (decide (n<=m)))
 |.eql=>some (.bool (decide (m=n)))
 |.neq=>some (.bool (!decide (m=n)))
 |_=>none
noncomputable def b1u (op:BinOp) (k k':IntKind) (m n:Int):Option Value:=match op with
 |.shl=>ifB (decide (n < 0)) none (some (.int k (k.wrap (m * 2 ^ min n.toNat k.bits))))
 |.shr=>ifB (decide (n < 0)) none (some (.int k (m.fdiv (2 ^ min n.toNat k.bits))))
 |op=>ifB (kb k k') (a9A op k m n) none
def sEqS:List Nat->List Value->List Value->Option Bool
 |[],[],[]=>some true
 |0::s,.int .i64 a::l,.int .i64 b::r=>(sEqS s l r).map (decide (a=b) && ·)
 |1::s,.string ⟨⟨a⟩⟩::l,.string ⟨⟨b⟩⟩::r=>(sEqS s l r).map (decide (a=b) && ·)
 |2::s,.bool a::l,.bool b::r=>(sEqS s l r).map (decide (a=b) && ·)
 |_,_,_=>none
abbrev EqT:=List (Nat×List Nat)
abbrev TT:=BT TI
noncomputable def b5v (op:BinOp) (l l':List UInt8):Option Value:=match op with
 |.eql=>some (.bool (decide (l=l')))
 |.neq=>some (.bool (!decide (l=l')))
 |.add=>ifB (Nat.ble (l.length + l'.length) 1000000) (some (.string ⟨(l++l').toArray⟩)) none
 |_=>none
noncomputable def b5L (T:TT) (op:BinOp) (t:TypeId) (a b:Bool):Option Value:=match T.get t,op with
 |some (.sc .bool _ _),.eql=>some (.bool (decide (a=b)))
 |some (.sc .bool _ _),.neq=>some (.bool (!decide (a=b)))
 |_,_=>none
noncomputable def b5F (q:EqT) (op:BinOp) (t:TypeId) (l l':List Value):Option Value:=match o3 q t with
 |some s=>match sEqS s l l',op with
  |some b,.eql=>some (.bool b)
  |some b,.neq=>some (.bool (!b))
  |_,_=>none
 |none=>none
noncomputable def b5G (T:TT) (op:BinOp) (t:TypeId) (p:Option Addr):Option Value:=match T.get t,op with
 |some (.sl _ _ _ _ _),.eql=>some (.bool p.isNone)
 |_,_=>none
noncomputable def b5t (T:TT) (op:BinOp) (t:TypeId) (p:Option Addr):Option Value:=match T.get t,op with
 |some (.sc (.pointer _) _ _),.eql=>some (.bool p.isNone)
 |_,_=>none
noncomputable def b7z (T:TT) (q:EqT) (op:BinOp) (t:TypeId):Value->Value->Option Value
 |.int k m,.int k' n=>b1u op k k' m n
 |.string ⟨⟨l⟩⟩,.string ⟨⟨l'⟩⟩=>b5v op l l'
 |.bool a,.bool b=>b5L T op t a b
 |.slice p _ _,.slice none 0 0=>b5G T op t p
 |.pointer p,.pointer none=>b5t T op t p
 |.agg ⟨l⟩,.agg ⟨l'⟩=>b5F q op t l l'
 |_,_=>none
noncomputable def b2y (E:Fr) (c a b:Operand):Option Value:=match sEv E c with
 |some (.bool true)=>sEv E a
 |some (.bool false)=>sEv E b
 |_=>none
noncomputable def b6u (E:Fr) (x:Operand):Option Value:=match sEv E x with
 |some (.pointer (some p))=>some (.pointer (some p))
 |_=>none
noncomputable def sFA (T:TT) (E:Fr) (s:TypeId) (x:Operand) (f:Nat):Option Value:=match T.get s,sEv E x with
 |some (.st _ fs _),some (.pointer (some ⟨g,k,none⟩))=>match a3v fs f with
  |some (o,_,_)=>some (.pointer (some ⟨g,k + o,none⟩))
  |none=>none
 |_,_=>none
noncomputable def b6G (E:Fr) (x:Operand) (i:Nat):Option Value:=match sEv E x with
 |some (.tuple vs)=>a3v vs.toList i
 |_=>none
noncomputable def b6d (E:Fr) (op:UnOp) (x:Operand):Option Value:=match op,sEv E x with
 |.not,some (.bool b)=>some (.bool (!b))
 |_,_=>none
noncomputable def sBO (T:TT) (q:EqT) (E:Fr) (op:BinOp) (t:TypeId) (x y:Operand):Option Value:=match sEv E x,sEv E y with
 |some u,some v=>b7z T q op t u v
 |_,_=>none
noncomputable def sMF (E:Fr) (fn:Go.Fn) (a b:Array Operand):Option Value:=match b1b E a.toList,b1b E b.toList with
 |some us,some vs=>some (.func fn us.toArray vs.toArray)
 |_,_=>none
noncomputable def sCv (T:TT) (E:Fr) (src dst:TypeId) (x:Operand):Option Value:=match T.get src,T.get dst,sEv E x with
 |some _,some (.sc (.int k) _ _),some (.int _ n)=>some (.int k (k.wrap n))
 |some _,some (.sc .string _ _),some (.string s)=>some (.string s)
 |_,_,_=>none
noncomputable def b7r (T:TT) (t:TypeId) (v:Value):Option Value:=match T.get t,v with
 |some (.sl _ _ _ _ _),.slice _ n _=>some (.int .i64 n)
 |some (.sc .string _ _),.string ⟨⟨l⟩⟩=>some (.int .i64 l.length)
 |_,_=>none
noncomputable def b7g (T:TT) (t:TypeId) (v:Value):Option Value:=match T.get t,v with
 |some (.sl _ _ _ _ _),.slice none _ c=>some (.int .i64 c)
 |_,_=>none
noncomputable def b7u (T:TT) (E:Fr) (b:Builtin) (args:List Operand) (ats:List TypeId):Option Value:=match b,args,ats with
 |.len,[x],[t]=>match sEv E x with
  |some v=>b7r T t v
  |none=>none
 |.cap,[x],[t]=>match sEv E x with
  |some v=>b7g T t v
  |none=>none
 |.min,[x,y],_=>match sEv E x,sEv E y with
  |some (.int .i64 m),some (.int .i64 k)=>some (.int .i64 (min m k))
  |_,_=>none
 |_,_,_=>none
noncomputable def sCP (T:TT) (E:Fr) (c:Call):Option Value:=match c.callee with
 |.builtin b=>b7u T E b c.args.toList c.argTypes.toList
 |_=>none
noncomputable def b6h (T:TT) (E:Fr) (s:TypeId) (x:Operand) (f:Nat):Option Value:=match T.get s,sEv E x with
 |some (.st _ fs _),some (.agg c)=>match a3v fs f with
  |some (o,n,true)=>some (.agg ((c.toList.drop o).take n).toArray)
  |some (o,_,false)=>a3v c.toList o
  |none=>none
 |_,_=>none
noncomputable def b6H (T:TT) (E:Fr) (t:TypeId) (parts:Array (Nat×Operand)):Option Value:=match T.get t,b3Z E parts.toList with
 |some (.st _ fs z),some ps=>(a1E (fun i=>(a3v fs i).map fun f=>(f.1,f.2.1)) z ps).map fun L=>.agg L.toArray
 |_,_=>none
noncomputable def sIA (T:TT) (E:Fr) (t:TypeId) (x y:Operand):Option Value:=match T.get t,sEv E x,sEv E y with
 |some (.sl _ sz _ _ _),some (.slice (some ⟨b,off,none⟩) m _),some (.int .i64 (.ofNat i))=>ifB (Nat.blt i m) (some (.pointer (some ⟨b,off + i * sz,none⟩))) none
 |some (.ar _ len sz _ _),some (.pointer (some ⟨b,off,none⟩)),some (.int .i64 (.ofNat i))=>ifB (Nat.blt i len) (some (.pointer (some ⟨b,off + i * sz,none⟩))) none
 |_,_,_=>none
noncomputable def sIx (T:TT) (E:Fr) (t:TypeId) (x y:Operand):Option Value:=match T.get t,sEv E x,sEv E y with
 |some (.sc .string _ _),some (.string ⟨⟨l⟩⟩),some (.int .i64 (.ofNat i))=>(a3v l i).map fun c=>.int .u8 c.toNat
 |_,_,_=>none
noncomputable def sBd:Option Value->Nat->Nat->Option Nat
 |none,z,_=>some z
 |some (.int _ (.ofNat i)),_,y=>ifB (Nat.ble i y) (some i) none
 |_,_,_=>none
noncomputable def b4X (E:Fr):Option Operand->Option (Option Value)
 |none=>some none
 |some x=>(sEv E x).map some
noncomputable def b22 (E:Fr) (lo hi:Option Operand) (len cap:Nat):Option (Nat×Nat):=match b4X E lo,b4X E hi with
 |some lo,some hi=>match sBd hi len cap with
  |some h=>match sBd lo 0 h with
   |some a=>some (a,h)
   |none=>none
  |none=>none
 |_,_=>none
noncomputable def sSl (T:TT) (E:Fr) (t:TypeId) (x:Operand) (lo hi mx:Option Operand):Option Value:=match mx,T.get t,sEv E x with
 |none,some (.sc .string _ _),some (.string ⟨⟨l⟩⟩)=>match b22 E lo hi l.length l.length with
  |some (a,h)=>some (.string ⟨((l.drop a).take (h - a)).toArray⟩)
  |none=>none
 |none,some (.sl _ sz _ _ _),some (.slice (some ⟨b,off,none⟩) m c)=>match b22 E lo hi m c with
  |some (a,h)=>ifB (Nat.beq a 0||Nat.blt a c) (some (.slice (some ⟨b,off + a * sz,none⟩) (h - a) (c - a))) none
  |none=>none
 |none,some (.sl _ _ _ _ _),some (.slice none m c)=>match b22 E lo hi m c with
  |some (a,h)=>some (.slice none (h - a) (c - a))
  |none=>none
 |_,_,_=>none
noncomputable def a96 (T:TT) (q:EqT) (E:Fr):Op->Option Value
 |.move x=>sEv E x
 |.assign x=>sEv E x
 |.pick c a b=>b2y E c a b
 |.nilCheck x=>b6u E x
 |.fieldAddr s x f=>sFA T E s x f
 |.extract x i=>b6G E x i
 |.unOp op _ x=>b6d E op x
 |.binOp op t x y _=>sBO T q E op t x y
 |.makeFunc fn a b=>sMF E fn a b
 |.convert src dst x=>sCv T E src dst x
 |.call c=>sCP T E c
 |.field s x f=>b6h T E s x f
 |.build t parts=>b6H T E t parts
 |.indexAddr t x y=>sIA T E t x y
 |.index t x y=>sIx T E t x y
 |.slice t x lo hi mx=>sSl T E t x lo hi mx
 |_=>none
noncomputable def o4 (H:SH) (i o n:Nat):Option (List Value):=match o3 H i with
 |some (.blk L)=>ifB (Nat.ble (o + n) L.length) (some ((L.drop o).take n)) none
 |some (.row _ sz rows _ _)=>match a3v rows (o / sz) with
  |some r=>ifB (Nat.ble (o % sz + n) r.length) (some ((r.drop (o % sz)).take n)) none
  |none=>none
 |_=>none
noncomputable def a6d (T:TT) (H:SH) (t:TypeId):Value->Option Value
 |.pointer (some ⟨i,o,none⟩)=>match T.get t with
  |some (.sc _ _ _)|some (.sl _ _ _ _ _)=>match o4 H i o 1 with
   |some [v]=>some v
   |_=>none
  |some (.st s _ _)|some (.ar s _ _ _ _)=>(o4 H i o s).map fun L=>.agg L.toArray
  |none=>none
 |_=>none
noncomputable def b7o (H:SH) (i o s:Nat) (c:List Value):Option SH:=ifB (Nat.beq c.length s && c.all (·.oneCell')) (match o3 H i with
 |some (.blk L)=>ifB (Nat.ble (o + s) L.length) (some (a2u H i (.blk (p9 L o c)))) none
 |some (.row e sz rows cap u)=>match a3v rows (o / sz) with
  |some r=>ifB (Nat.ble (o % sz + s) sz) (some (a2u H i (.row e sz (rows.set (o / sz) (p9 r (o % sz) c)) cap u))) none
  |none=>none
 |_=>none) none
noncomputable def a9s (T:TT) (H:SH) (t:TypeId) (v:Value):Value->Option SH
 |.pointer (some ⟨i,o,none⟩)=>match T.get t,celL v with
  |some ti,some c=>b7o H i o ti.size c
  |_,_=>none
 |_=>none
noncomputable def a3y (H:SH) (sz:Nat):Value->Option (List (List Value))
 |.slice none 0 _=>some []
 |.slice (some _) 0 _=>some []
 |.slice (some ⟨i,o,none⟩) m _=>match o3 H i with
  |some (.row _ sz' rows _ _)=>ifB (Nat.beq sz sz' && (Nat.beq (o % sz) 0 && Nat.ble (o / sz + m) rows.length)) (some ((rows.drop (o / sz)).take m)) none
  |_=>none
 |_=>none
noncomputable def a7K:List (List Value)->Option (List UInt8)
 |[]=>some []
 |[.int .u8 (.ofNat n)]::r=>ifB (Nat.blt n 256) ((a7K r).map (UInt8.ofNat n::·)) none
 |_=>none
abbrev OpR:=Option (Option Value×SH×Nat)
noncomputable def b2x (H:SH) (n e sz:Nat) (rows:List (List Value)):OpR:=some (some (.slice (some ⟨n,0,none⟩) rows.length rows.length),a15 H n (.row e sz rows rows.length true),n + 1)
noncomputable def b5s (H:SH) (n e sz m c:Nat) (news:List (List Value)) (i:Nat):OpR:=match o3 H i with
 |some (.row e' sz' rows cap u)=>ifB (Nat.beq e e' && Nat.beq sz sz')
   (ifB (Nat.beq m rows.length && Nat.beq c cap) (b2x (a0R H i) n e sz (rows++news))
    (ifB (Nat.ble (m + news.length) rows.length && Nat.ble (m + news.length) c) (some (some (.slice (some ⟨i,0,none⟩) (m + news.length) c),a2u H i (.row e sz (a1O rows news m) cap u),n)) none)) none
 |_=>none
noncomputable def b0A (H:SH) (n e sz eb:Nat) (news:List (List Value)):Value->OpR
 |.slice p m c=>match news with
  |[]=>ifB (Nat.ble m c) (some (some (.slice p m c),H,n)) none
  |_::_=>ifB (Nat.ble ((m + news.length) * (eb + 1)) 1000000) (match p with
   |none=>ifB (Nat.beq m 0 && Nat.beq c 0) (b2x H n e sz news) none
   |some ⟨i,0,none⟩=>b5s H n e sz m c news i
   |_=>none) none
 |_=>none
noncomputable def b5J (H:SH) (n e sz eb q:Nat) (z:List Value):Value->OpR
 |.slice none 0 0=>ifB (Nat.blt 0 q && (Nat.ble (q * (eb + 1)) 1000000 && z.all (·.oneCell'))) (b2x H n e sz (List.replicate q z)) none
 |_=>none
noncomputable def a9h (T:TT) (H:SH) (n:Nat) (t t':TypeId) (s u:Value):OpR:=match T.get t with
 |some (.sl e sz eb _ z)=>ifB (Nat.beq t t') (match a3y H sz u with
   |some news=>b0A H n e sz eb news s
   |none=>none) (match T.get t',u with
   |some (.sc (.int .i64) _ _),.int .i64 (.ofNat q)=>b5J H n e sz eb q z s
   |_,_=>none)
 |_=>none
noncomputable def b3Q (T:TT) (H:SH) (t:TypeId) (v:Value):Option (Nat×Nat×Nat×List UInt8×Bool):=match T.get t,v with
 |some (.sl e 1 1 false [.int .u8 (.ofNat 0)]),.slice (some ⟨i,0,none⟩) m c=>match o3 H i with
  |some (.row e' 1 rows cap u)=>ifB (Nat.beq e e' && (Nat.beq m rows.length && Nat.beq c cap)) ((a7K rows).map fun l=>(i,e,cap,l,u)) none
  |_=>none
 |_,_=>none
noncomputable def b2Z (T:TT) (H:SH) (n:Nat) (t:TypeId) (s u:Value):OpR:=match b3Q T H t s,u with
 |some (i,e,cap,old,ub),.string ⟨⟨l⟩⟩=>some (some (.int .i64 (l.take old.length).length),a2u H i (.row e 1 (bR (l.take old.length++old.drop (l.take old.length).length)) cap ub),n)
 |_,_=>none
noncomputable def b13 (H:SH) (n:Nat) (t:TypeId) (v:Value):OpR:=match v with
 |.map (some i)=>match o3 H i with
  |some (.smap t' es)=>ifB (Nat.beq t t') (some (some (.int .i64 es.length),H,n)) none
  |_=>none
 |_=>none
noncomputable def b5X (T:TT) (E:Fr) (H:SH) (n:Nat) (b:Builtin) (args:List Operand) (ats:List TypeId):OpR:=match b,args,ats with
 |.append,[x,y],[t,t']=>match sEv E x,sEv E y with
  |some s,some u=>a9h T H n t t' s u
  |_,_=>none
 |.copy,[x,y],[t,_]=>match sEv E x,sEv E y with
  |some s,some u=>b2Z T H n t s u
  |_,_=>none
 |.len,[x],[t]=>match sEv E x with
  |some v=>b13 H n t v
  |none=>none
 |_,_,_=>none
noncomputable def b47:Value->Value->Option Bool
 |.int .i64 a,.int .i64 b=>some (decide (a=b))
 |.string ⟨⟨a⟩⟩,.string ⟨⟨b⟩⟩=>some (decide (a=b))
 |_,_=>none
noncomputable def a4l (k:Value):List (Value×Value)->Option (Option Value)
 |[]=>some none
 |(x,v)::r=>match b47 k x with
  |some true=>some (some v)
  |some false=>a4l k r
  |none=>none
noncomputable def b1t (k v:Value):List (Value×Value)->List (Value×Value)
 |[]=>[(k,v)]
 |(x,u)::r=>match b47 k x with
  |some true=>(k,v)::r
  |_=>(x,u)::b1t k v r
noncomputable def sKO (T:TT) (t:TypeId) (k:Value):Bool:=match T.get t with
 |some (.sc (.map K _) _ _)=>match T.get K,k with
  |some (.sc (.int .i64) _ _),.int .i64 _=>true
  |some (.sc .string _ _),.string _=>true
  |_,_=>false
 |_=>false
noncomputable def a79 (T:TT) (H:SH) (t:TypeId) (i:Nat) (k:Value):Option (List (Value×Value)):=match o3 H i with
 |some (.smap t' es)=>ifB (Nat.beq t t' && sKO T t k) (some es) none
 |_=>none
noncomputable def b2T (T:TT) (ez:List (Nat×Value)) (H:SH) (n:Nat) (t:TypeId) (ok:Bool) (m k:Value):OpR:=match m with
 |.map (some i)=>match a79 T H t i k with
  |some es=>match a4l k es with
   |some (some v)=>some (some (ifB ok (.tuple #[v,.bool true]) v),H,n)
   |some none=>(o3 ez t).map fun z=>(some (ifB ok (.tuple #[z,.bool false]) z),H,n)
   |none=>none
  |none=>none
 |_=>none
noncomputable def b6l (T:TT) (H:SH) (n:Nat) (t:TypeId) (m k v:Value):OpR:=match m with
 |.map (some i)=>match a79 T H t i k with
  |some es=>match a4l k es with
   |some _=>some (none,a2u H i (.smap t (b1t k v es)),n)
   |none=>none
  |none=>none
 |_=>none
noncomputable def b6e (T:TT) (E:Fr) (H:SH) (n:Nat) (src dst:TypeId) (x:Operand):OpR:=match T.get dst,sEv E x with
 |some (.sc .string _ _),some v=>match b3Q T H src v with
  |some (_,e,_,l,_)=>match T.get e with
   |some (.sc (.int .u8) 1 (.int .u8 (.ofNat 0)))=>ifB (Nat.blt 0 l.length) (some (some (.string ⟨l.toArray⟩),H,n)) none
   |_=>none
  |none=>none
 |_,_=>none
noncomputable def sBS (T:TT) (E:Fr) (H:SH) (n:Nat) (t:TypeId) (len:Nat) (parts:Array (Nat×Operand)):OpR:=match T.get t,b3Z E parts.toList with
 |some (.sl e sz _ _ _),some ps=>match a2V 0 sz ps with
  |some rows=>ifB (Nat.beq rows.length len && (Nat.ble (len * sz) 16777216 && a3J rows)) (some (some (.slice (some ⟨n,0,none⟩) len len),a15 H n (.row e sz rows len false),n + 1)) none
  |none=>none
 |_,_=>none
noncomputable def sMk (T:TT) (E:Fr) (H:SH) (n:Nat) (t:TypeId) (x y:Operand):OpR:=match T.get t,sEv E x,sEv E y with
 |some (.sl e sz eb _ z),some (.int .i64 (.ofNat i)),some (.int .i64 (.ofNat j))=>ifB (Nat.beq i j && (Nat.ble (i * (eb + 1)) 1000000 && z.all (·.oneCell'))) (some (some (.slice (some ⟨n,0,none⟩) i i),a15 H n (.row e sz (List.replicate i z) i false),n + 1)) none
 |_,_,_=>none
noncomputable def b54 (T:TT) (E:Fr) (H:SH) (n:Nat) (t:TypeId) (x:Operand) (lo hi mx:Option Operand):OpR:=match T.get t,sEv E x,b4X E lo,hi,mx with
 |some (.sl _ _ _ _ _),some (.slice (some ⟨_,_,none⟩) m _),some (some (.int .i64 (.ofNat i))),none,none=>ifB (Nat.ble i m) (some (none,H,n)) none
 |_,_,_,_,_=>none
noncomputable def b2g (E:Fr) (H:SH) (n:Nat) (x:Operand):OpR:=match sEv E x with
 |some (.pointer (some ⟨i,0,none⟩))=>match o3 H i with
  |some (.siter l k)=>match a3v l k with
   |some b=>ifB (Nat.blt b.toNat 128) (some (some (.tuple #[.bool true,.int .i64 k,.int .i32 b.toNat]),a2u H i (.siter l (k + 1)),n)) none
   |none=>some (some (.tuple #[.bool false]),H,n)
  |_=>none
 |_=>none
noncomputable def b6j (H:SH) (n:Nat) (s:SA):OpR:=some (some (.pointer (some ⟨n,0,none⟩)),a15 H n s,n + 1)
noncomputable def sOp (T:TT) (ez:List (Nat×Value)) (E:Fr) (H:SH) (n:Nat):Op->OpR
 |.load t x=>match sEv E x with
  |some p=>(a6d T H t p).map fun v=>(some v,H,n)
  |none=>none
 |.store t x y=>match sEv E x,sEv E y with
  |some p,some v=>(a9s T H t v p).map fun H'=>(none,H',n)
  |_,_=>none
 |.box _ x=>match sEv E x with
  |some v=>match celL v with
   |some L=>b6j H n (.blk L)
   |none=>none
  |none=>none
 |.alloc t=>match T.get t with
  |some ti=>b6j H n (.blk ti.zeroCells)
  |none=>none
 |.buildSlice t len parts=>sBS T E H n t len parts
 |.makeSlice t x y=>sMk T E H n t x y
 |.call c=>match c.callee with
  |.builtin b=>b5X T E H n b c.args.toList c.argTypes.toList
  |_=>none
 |.convert src dst x=>b6e T E H n src dst x
 |.makeMap t none=>match T.get t with
  |some (.sc (.map K _) _ _)=>match T.get K with
   |some _=>some (some (.map (some n)),a15 H n (.smap t []),n + 1)
   |none=>none
  |_=>none
 |.lookup t m x ok=>match sEv E m,sEv E x with
  |some m,some k=>b2T T ez H n t ok m k
  |_,_=>none
 |.mapUpdate t m x y=>match sEv E m,sEv E x,sEv E y with
  |some m,some k,some v=>b6l T H n t m k v
  |_,_,_=>none
 |.slice t x lo hi mx=>b54 T E H n t x lo hi mx
 |.range t x=>match T.get t,sEv E x with
  |some (.sc .string _ _),some (.string ⟨⟨l⟩⟩)=>b6j H n (.siter l 0)
  |_,_=>none
 |.next x true=>b2g E H n x
 |_=>none
end Go.Proofs.YtejnpppejalhfacGreat
