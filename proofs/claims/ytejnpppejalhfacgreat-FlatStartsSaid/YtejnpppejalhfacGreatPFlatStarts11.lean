/- Texts that the proof stands on, one behind the other: Fl9, PlKer3, PlRun, Ke13, Ke14, Ke15, PlRun2, PlRun3, PlRun4, PlRun5, PlRun6, PlRun7, Ke16, Ke17, Ke18, Ke19, Ke20, PlRun8, Ke21, Ke22, PlRun9, Ke23, Ke24, Ke25, Ke26, Ke27, Ke28, Ke29, Ke30, Ke31, Ke32, Fl10, Fl11, LawFlS, Op1, OpA, OpK. -/
import Derived.Deep.Slices
import Derived.OpenShut
import Derived.WideShapes
import Derived.ProofKit
import Derived.Test.YtejnpppejalhfacGreatPFlatStarts10
set_option linter.unusedVariables false
set_option linter.unusedSimpArgs false
namespace Go.Proofs.YtejnpppejalhfacGreat
set_option maxRecDepth 100000
set_option maxHeartbeats 8000000
open Go.RowKit Go.Sort
theorem b2M (a b:Fp):a3o Tryz.prog 145 (fpC a) (fpC b) (decide (a=b)):=by
 refine ⟨fun w=>?_,by kernel_rfl⟩
 cases a
 cases b
 unfold fpC;simp [go_sem]
 repeat' split
 all_goals simp_all
theorem a1T {w:World} {k k':FlV} (hK:FlOk w k) (hK':FlOk w k') (he:k.F=k'.F):Fn Tryz.prog 38 [.agg (flC k).toArray,.agg (flC k').toArray] w (RBf (.bool true) w):=by
 have b1:=hK.sp.bound;have b2:=hK'.sp.bound;obtain ⟨slots,sps,pr,out,vsp,vpr,vout⟩:=k;obtain ⟨slots',sps',pr',out',vsp',vpr',vout'⟩:=k';unfold FlV.F at he;injection he with e1 e2 e3 e4
 dsimp only at e1 e2 e3 e4;subst e1 e3 e4;have hl4:sps.length=sps'.length:=by have:=congrArg List.length e2;simpa using this
 obtain ⟨k1,k2,k3,k4,k5⟩:=hK;obtain ⟨m1,m2,m3,m4,m5⟩:=hK';dsimp only at b1 b2 k1 k2 k3 k4 k5 m1 m2 m3 m4 m5;have hsp:=fun w1 (h:Sl nF w1 13 vpr (pr.map prC)) (h':Sl nF w1 13 vpr' (pr.map prC))=>a4e h h';have hso:=fun w1 (h:Sl nF w1 2 vout (out.map wdC)) (h':Sl nF w1 2 vout' (out.map wdC))=>a4j h h';obtain ⟨p1,c1,rfl⟩:=k1.len;obtain ⟨p2,c2,rfl⟩:=k4.len;obtain ⟨p3,c3,rfl⟩:=k5.len;obtain ⟨q1,d1,rfl⟩:=m1.len;obtain ⟨q2,d2,rfl⟩:=m4.len;obtain ⟨q3,d3,rfl⟩:=m5.len;unfold flC;dsimp only;have z0:(!decide (slots=slots))=false:=by rw [xh0 rfl];rfl
 have z4:(!decide ((sps.length:Int)=sps'.length))=false:=by rw [xh0 (by omega)];rfl
 refine yEn Tryz.func38 Tryz.ntmps38 (by kernel_rfl) (by kernel_rfl) rfl rfl ?_;have hS:=St.start w
 repeat' (first|(with_reducible apply a5 a4);rfl;rfl;rfl|(with_reducible apply a6);rfl;(first|apply Ld.sc a4;rfl;(first|exact hS.blkC 0 rfl rfl|exact hS.blkC 1 rfl rfl)|apply Ld.sl a4;rfl;(first|exact hS.blkC 0 rfl rfl|exact hS.blkC 1 rfl rfl));rfl|refine yDn (by with_reducible constructor) ?_|((with_reducible apply e9);(iterate 4 rfl);first|rfl|assumption)|(with_reducible apply a7);rfl;(first|rfl|assumption);rfl;rfl|(with_reducible apply f8);rfl;rfl|(with_reducible apply d8 hS);rfl;rfl;rfl;clear hS;intro g w' hS|(with_reducible apply b4 hS);rfl;rfl;rfl;refine ⟨_,hsp _ (k4.now hS) (m4.now hS),?_⟩;clear hS;intro w' hS|(with_reducible apply b4 hS);rfl;rfl;rfl;refine ⟨_,hso _ (k5.now hS) (m5.now hS),?_⟩;clear hS;intro w' hS)
 refine a2I hS 5 [2,3] rfl sps.length (fun _=>True) 0 rfl (xf0 _) trivial ?_;rintro i w1 hi - hS';clear hS;have hS:=hS';clear hS';by_cases hlt:i < sps.length;rotate_left
 ·repeat' (first|(with_reducible apply a5 a4);rfl;rfl;rfl|(with_reducible apply a6);rfl;(apply Ld.sl a4;rfl;exact hS.blkC 1 rfl rfl);rfl|refine yDn (by with_reducible constructor) ?_|(with_reducible apply b6);rfl;all_goals (intro hb hp;try (exfalso;omega)))
  (refine d4 rfl ?_)
  exact ⟨rfl,hS.sub (xg7 _)⟩
 obtain ⟨x,hx⟩:=l9 (l:=sps) (i:=i) (by omega);obtain ⟨y,hy⟩:=l9 (l:=sps') (i:=i) (by omega);have hxy:x.1=y.1:=by
  have h1:(sps.map (·.1))[i]?=some x.1:=i7 (f:=fun p:Fs×Value×Value=>p.1) hx;have h2:(sps'.map (·.1))[i]?=some y.1:=i7 (f:=fun p:Fs×Value×Value=>p.1) hy;rw [e2,h2] at h1;exact (Option.some.inj h1).symm
 have hrow:=i7 (f:=fsC) hx;have hrow':=i7 (f:=fsC) hy;obtain ⟨b,off,rfl,hro⟩:=k1.at_ (i:=i) hlt;obtain ⟨b',off',rfl,hro'⟩:=m1.at_ (i:=i) (by omega);have ha:=k2 x (xc1 hx);have hen:=k3 x (xc1 hx);have ha':=m2 y (xc1 hy);have hen':=m3 y (xc1 hy);obtain ⟨s,va,ve⟩:=x;obtain ⟨s',va',ve'⟩:=y;dsimp only at hxy ha hen ha' hen';subst hxy;have be:=hen.bound;obtain ⟨pa,ca,rfl⟩:=ha.len;obtain ⟨pe,ce,rfl⟩:=hen.len;obtain ⟨pa',ca',rfl⟩:=ha'.len;obtain ⟨pe',ce',rfl⟩:=hen'.len;unfold fsC at hrow hrow';dsimp only at hrow hrow';have hsa:=fun w1 (h:Sl nF w1 4 (.slice pa s.areas.length ca) (s.areas.map arC)) (h':Sl nF w1 4 (.slice pa' s.areas.length ca') (s.areas.map arC))=>a9I h h';rw [xh0 rfl] at hsa;have z5:(!decide ((s.pages.length:Int)=s.pages.length))=false:=by rw [xh0 rfl];rfl
 have z6:(!decide (s.live=s.live))=false:=by rw [xh0 rfl];rfl
 repeat' (first|(with_reducible apply a5 a4);rfl;rfl;rfl|(with_reducible apply a6);rfl;(apply Ld.sl a4;rfl;exact hS.blkC 1 rfl rfl);rfl|refine yDn (by with_reducible constructor) ?_|(with_reducible apply b6);rfl;all_goals (intro hb hp;try (exfalso;omega)))
 refine a4n 14 rfl hS (by kernel_rfl) ?_;intro wh hh;clear hS;have hS:=hh;clear hh
 ((with_reducible apply i3 (nn 0) a4);rfl;kernel_rfl;exact (fun _ _ _ h=>h);exact hS;rfl;rfl)
 ((with_reducible apply n9 (nn 1));rfl;kernel_rfl;exact (fun _ _ _ h=>h);exact hS;rfl;(intro wd hd;replace hd:St _ _ wd _:=hd;(apply Ld.sl a4;rfl;exact hd.blkC 1 rfl rfl));rfl)
 ((with_reducible apply i3 (nn 2) a4);rfl;kernel_rfl;exact (fun _ _ _ h=>h);exact hS;rfl;rfl)
 ((with_reducible apply a9D (nn 3) a4);rfl;kernel_rfl;kernel_rfl;kernel_rfl;exact (fun _ _ _ _ h=>h);exact hS;rfl;rfl;rfl;rfl;omega;rfl)
 ((with_reducible apply n9 (nn 4));rfl;kernel_rfl;exact (fun _ _ _ h=>h);exact hS;rfl;(intro wd hd;replace hd:St _ _ wd _:=hd;(apply Ld.st a4;rfl;exact hd.roR (by assumption) (by assumption);rfl));rfl)
 ((with_reducible apply i3 (nn 5) a4);rfl;kernel_rfl;exact (fun _ _ _ h=>h);exact hS;rfl;rfl)
 ((with_reducible apply n9 (nn 6));rfl;kernel_rfl;exact (fun _ _ _ h=>h);exact hS;rfl;(intro wd hd;replace hd:St _ _ wd _:=hd;(apply Ld.sl a4;rfl;exact hd.blkC 0 rfl rfl));rfl)
 ((with_reducible apply i3 (nn 7) a4);rfl;kernel_rfl;exact (fun _ _ _ h=>h);exact hS;rfl;rfl)
 ((with_reducible apply a9D (nn 8) a4);rfl;kernel_rfl;kernel_rfl;kernel_rfl;exact (fun _ _ _ _ h=>h);exact hS;rfl;rfl;rfl;rfl;omega;rfl)
 ((with_reducible apply n9 (nn 9));rfl;kernel_rfl;exact (fun _ _ _ h=>h);exact hS;rfl;(intro wd hd;replace hd:St _ _ wd _:=hd;(apply Ld.st a4;rfl;exact hd.roR (by assumption) (by assumption);rfl));rfl)
 refine a4G (i:=10) (j:=11) (by kernel_rfl) ?_ ?_
 ·refine o7 rfl (t3 hS a4 rfl rfl) rfl ?_;rintro _ w' ⟨g,rfl,hS'⟩;clear hS;have hS:=hS';clear hS';refine ⟨hS.drop,?_⟩;refine s7 (i:=11) (by kernel_rfl) ?_;refine o7 rfl (t3 hS a4 rfl rfl) rfl ?_;rintro _ w' ⟨g,rfl,hS'⟩;clear hS;have hS:=hS';clear hS';refine ⟨hS.drop.drop,?_⟩;refine s7 (i:=12) (by kernel_rfl) ?_;refine t4 (Φ:=fun _ w'=>St _ _ w' _) rfl (p9 hS a4 (i:=1) rfl rfl rfl rfl rfl (xe8 rfl) (xb8.1 rfl)) ?_;intro _ w' hS';simp only [List.set] at hS';clear hS;have hS:=hS';clear hS';refine ⟨hS.drop.drop,?_⟩;refine s7 (i:=13) (by kernel_rfl) ?_;refine t4 (Φ:=fun _ w'=>St _ _ w' _) rfl (p9 hS a4 (i:=0) rfl rfl rfl rfl rfl (xe8 rfl) (xb8.1 rfl)) ?_;intro _ w' hS';simp only [List.set] at hS';clear hS;have hS:=hS';clear hS';refine ⟨hS.drop.drop,?_⟩;refine a0u (by kernel_rfl) ?_
  repeat' (first|(with_reducible apply a5 a4);rfl;rfl;rfl|(with_reducible apply a6);rfl;(first|apply Ld.sc a4;rfl;(first|exact hS.blkC 0 rfl rfl|exact hS.blkC 1 rfl rfl)|apply Ld.sl a4;rfl;(first|exact hS.blkC 0 rfl rfl|exact hS.blkC 1 rfl rfl));rfl|(with_reducible apply a1v a4);(iterate 4 rfl)|refine yDn (by with_reducible constructor) ?_|((with_reducible apply e9);(iterate 4 rfl);first|rfl|assumption)|(with_reducible apply a7);rfl;(first|rfl|assumption);rfl;rfl|(with_reducible apply f8);rfl;assumption|(with_reducible apply b4 hS);rfl;rfl;rfl;refine ⟨_,hsa _ (ha.now hS) (ha'.now hS),?_⟩;clear hS;intro w' hS)
  refine a2I hS 8 [2,3,5,6,7] rfl s.pages.length (fun _=>True) 0 rfl (xf0 _) trivial ?_;rintro j w3 hj - hS';clear hS;have hS:=hS';clear hS';by_cases hjl:j < s.pages.length
  ·obtain ⟨e,he⟩:=l9 (l:=s.pages) (i:=j) (by omega);have hrow2:=i7 (f:=fpC) he;obtain ⟨b2,off2,rfl,hro2⟩:=hen.at_ (i:=j) hjl;obtain ⟨b3,off3,rfl,hro3⟩:=hen'.at_ (i:=j) hjl;have heq:=b2M e e;rw [xh0 rfl] at heq
   repeat' (first|(with_reducible apply a5 a4);rfl;rfl;rfl|(with_reducible apply a6);rfl;(apply Ld.sl a4;rfl;exact hS.blkC 1 rfl rfl);rfl|refine yDn (by with_reducible constructor) ?_|(with_reducible apply b6);rfl;all_goals (intro hb hp;try (exfalso;omega)))
   (focus ((with_reducible apply a8 _ _ _ (by kernel_rfl) (by kernel_rfl) hS);(repeat' (first|(first|(with_reducible apply i4 a4);rfl;rfl|(with_reducible apply i6);rfl;(intro wd hd;replace hd:St _ _ wd _:=hd;(first|apply Ld.sl a4;rfl;(first|exact hd.blkC 0 rfl rfl|exact hd.blkC 1 rfl rfl)|apply Ld.st a4;rfl;exact hd.roR (by assumption) (by assumption);rfl));rfl|(with_reducible apply a0a a4);rfl;rfl;rfl;rfl;omega;rfl)|(with_reducible apply a6U);rfl;rfl;exact heq;rfl));all_goals ((with_reducible apply l3);intro w' hS';clear hS;have hS:=hS';clear hS')))
   repeat' (first|(with_reducible apply a5 a4);rfl;rfl;rfl|(with_reducible apply o9);rfl;rfl;omega;omega;rfl|refine yDn (by with_reducible constructor) ?_|(with_reducible apply f8);rfl;rfl)
   exact a1h (j + 1) (by exact Fr.sub_of rfl) (by omega) trivial (by omega) hS
  ·repeat' (first|(with_reducible apply a5 a4);rfl;rfl;rfl|(with_reducible apply a6);rfl;(apply Ld.sl a4;rfl;exact hS.blkC 1 rfl rfl);rfl|(with_reducible apply o9);rfl;rfl;omega;omega;rfl|refine yDn (by with_reducible constructor) ?_|(with_reducible apply b6);rfl;all_goals (intro hb hp;try (exfalso;omega)))
   exact a1h (i + 1) (by exact Fr.sub_of rfl) (by omega) trivial (by omega) hS.drop.drop
 ·refine o7 rfl (t3 hS a4 rfl rfl) rfl ?_;rintro _ w' ⟨g,rfl,hS'⟩;clear hS;have hS:=hS';clear hS';refine ⟨hS.drop,?_⟩;refine s7 (i:=10) (by kernel_rfl) ?_;refine o7 rfl (t3 hS a4 rfl rfl) rfl ?_;rintro _ w' ⟨g,rfl,hS'⟩;clear hS;have hS:=hS';clear hS';refine ⟨hS.drop.drop,?_⟩;refine s7 (i:=12) (by kernel_rfl) ?_;refine t4 (Φ:=fun _ w'=>St _ _ w' _) rfl (p9 hS a4 (i:=0) rfl rfl rfl rfl rfl (xe8 rfl) (xb8.1 rfl)) ?_;intro _ w' hS';simp only [List.set] at hS';clear hS;have hS:=hS';clear hS';refine ⟨hS.drop.drop,?_⟩;refine s7 (i:=13) (by kernel_rfl) ?_;refine t4 (Φ:=fun _ w'=>St _ _ w' _) rfl (p9 hS a4 (i:=1) rfl rfl rfl rfl rfl (xe8 rfl) (xb8.1 rfl)) ?_;intro _ w' hS';simp only [List.set] at hS';clear hS;have hS:=hS';clear hS';refine ⟨hS.drop.drop,?_⟩;refine a0u (by kernel_rfl) ?_
  repeat' (first|(with_reducible apply a5 a4);rfl;rfl;rfl|(with_reducible apply a6);rfl;(first|apply Ld.sc a4;rfl;(first|exact hS.blkC 0 rfl rfl|exact hS.blkC 1 rfl rfl)|apply Ld.sl a4;rfl;(first|exact hS.blkC 0 rfl rfl|exact hS.blkC 1 rfl rfl));rfl|(with_reducible apply a1v a4);(iterate 4 rfl)|refine yDn (by with_reducible constructor) ?_|((with_reducible apply e9);(iterate 4 rfl);first|rfl|assumption)|(with_reducible apply a7);rfl;(first|rfl|assumption);rfl;rfl|(with_reducible apply f8);rfl;assumption|(with_reducible apply b4 hS);rfl;rfl;rfl;refine ⟨_,hsa _ (ha.now hS) (ha'.now hS),?_⟩;clear hS;intro w' hS)
  refine a2I hS 8 [2,3,5,6,7] rfl s.pages.length (fun _=>True) 0 rfl (xf0 _) trivial ?_;rintro j w3 hj - hS';clear hS;have hS:=hS';clear hS';by_cases hjl:j < s.pages.length
  ·obtain ⟨e,he⟩:=l9 (l:=s.pages) (i:=j) (by omega);have hrow2:=i7 (f:=fpC) he;obtain ⟨b2,off2,rfl,hro2⟩:=hen.at_ (i:=j) hjl;obtain ⟨b3,off3,rfl,hro3⟩:=hen'.at_ (i:=j) hjl;have heq:=b2M e e;rw [xh0 rfl] at heq
   repeat' (first|(with_reducible apply a5 a4);rfl;rfl;rfl|(with_reducible apply a6);rfl;(apply Ld.sl a4;rfl;exact hS.blkC 0 rfl rfl);rfl|refine yDn (by with_reducible constructor) ?_|(with_reducible apply b6);rfl;all_goals (intro hb hp;try (exfalso;omega)))
   (focus ((with_reducible apply a8 _ _ _ (by kernel_rfl) (by kernel_rfl) hS);(repeat' (first|(first|(with_reducible apply i4 a4);rfl;rfl|(with_reducible apply i6);rfl;(intro wd hd;replace hd:St _ _ wd _:=hd;(first|apply Ld.sl a4;rfl;(first|exact hd.blkC 0 rfl rfl|exact hd.blkC 1 rfl rfl)|apply Ld.st a4;rfl;exact hd.roR (by assumption) (by assumption);rfl));rfl|(with_reducible apply a0a a4);rfl;rfl;rfl;rfl;omega;rfl)|(with_reducible apply a6U);rfl;rfl;exact heq;rfl));all_goals ((with_reducible apply l3);intro w' hS';clear hS;have hS:=hS';clear hS')))
   repeat' (first|(with_reducible apply a5 a4);rfl;rfl;rfl|(with_reducible apply o9);rfl;rfl;omega;omega;rfl|refine yDn (by with_reducible constructor) ?_|(with_reducible apply f8);rfl;rfl)
   exact a1h (j + 1) (by exact Fr.sub_of rfl) (by omega) trivial (by omega) hS
  ·repeat' (first|(with_reducible apply a5 a4);rfl;rfl;rfl|(with_reducible apply a6);rfl;(apply Ld.sl a4;rfl;exact hS.blkC 0 rfl rfl);rfl|(with_reducible apply o9);rfl;rfl;omega;omega;rfl|refine yDn (by with_reducible constructor) ?_|(with_reducible apply b6);rfl;all_goals (intro hb hp;try (exfalso;omega)))
   exact a1h (i + 1) (by exact Fr.sub_of rfl) (by omega) trivial (by omega) hS.drop.drop
theorem a53 {A:List Ar} (hc:b5 A=0) {e:En} (h:(k7 A e.page).isSome=true):0 < e.page:=by
 obtain ⟨a,ha⟩:=xh6.1 h;have:=(a3g hc ha).2;omega
def a3v (l:List En) (p:Int):Option En:=l.find? fun e=>decide (e.page=p)
def a0W (l:List En):List Int:=l.map fun e=>e.page
def b3x (l:List En) (e:En):List En:=l.take (lbd (a0W l) e.page)++e::l.drop (lbd (a0W l) e.page)
def putE (l:List En) (e:En):List En:=if e.page ∈ a0W l then l.set (lbd (a0W l) e.page) e else b3x l e
def a45 (l:List Fm) (i:Nat):Fm:=(l[i]?).getD fm0
def a8a (l:List Sw) (i:Nat):Sw:=(l[i]?).getD sw0
def sc0:Sc:=⟨false,[],[]⟩
def a1U (K:Ker) (sp:Nat):Sc:=(K.spaces[sp]?).getD sc0
def a1B (K:Ker) (sp:Nat):List En:=(a1U K sp).entries
def y6 (K:Ker) (sp:Nat):List Ar:=(a1U K sp).areas
def zAt (K:Ker) (sp:Nat) (page:Int):Bool:=((k7 (y6 K sp) page).getD a18).z
def b1J (K:Ker) (sp:Nat) (page:Int):List UInt8:=(a6K K.sheets (zAt K sp page) page).getD []
def b2B (K:Ker) (e:En):List UInt8:=if e.kind=1 then (a45 K.frames e.at_.toNat).data else (a8a K.slots e.at_.toNat).data
def a31 (K:Ker) (sp:Nat) (page:Int):List UInt8:=match a3v (a1B K sp) page with
 |some e=>b2B K e
 |none=>b1J K sp page
structure FmOk (sh:List Sh) (f:Fm) (N:List Nm):Prop where
 refs:f.refs=(N.length:Int)
 nil:N=[]->f=fm0
 len:N≠[]->f.data.length=16
 same:∀ n ∈ N,∀ m ∈ N,m.1.page=n.1.page/\m.2.z=n.2.z
 data:∀ n ∈ N,f.dirty=true\/some f.data=a6K sh n.2.z n.1.page
structure SwOk (s:Sw) (N:List Nm):Prop where
 refs:s.refs=(N.length:Int)
 nil:N=[]->s=sw0
 len:N≠[]->s.data.length=16
 same:∀ n ∈ N,∀ m ∈ N,m.1.page=n.1.page/\m.2.z=n.2.z
theorem FmOk.perm {sh:List Sh} {f:Fm} {N M:List Nm} (h:FmOk sh f N) (p:N.Perm M):FmOk sh f M :=
 ⟨by rw [<- p.length_eq];exact h.refs,fun e=>h.nil (by subst e;exact p.eq_nil),fun e=>h.len (fun e2=>e (by subst e2;exact p.symm.eq_nil)),fun n hn m hm=>h.same n (p.mem_iff.2 hn) m (p.mem_iff.2 hm),fun n hn=>h.data n (p.mem_iff.2 hn)⟩
theorem SwOk.perm {f:Sw} {N M:List Nm} (h:SwOk f N) (p:N.Perm M):SwOk f M :=
 ⟨by rw [<- p.length_eq];exact h.refs,fun e=>h.nil (by subst e;exact p.eq_nil),fun e=>h.len (fun e2=>e (by subst e2;exact p.symm.eq_nil)),fun n hn m hm=>h.same n (p.mem_iff.2 hn) m (p.mem_iff.2 hm)⟩
structure Right (K:Ker):Prop where
 cnt:3<=K.frames.length/\K.frames.length<=64/\K.slots.length<=512/\1<=K.spaces.length/\K.spaces.length<=4/\K.sheets.length<=255
 rise:a0i 0 K.sheets=true
 hand:0<=K.hand/\K.hand < K.frames.length
 spaces:∀ s ∈ K.spaces,a4c K.sheets K.frames.length K.slots.length s=true
 room:b1c K.spaces<=K.slots.length
 fr:∀ (i:Nat) f,K.frames[i]?=some f->FmOk K.sheets f (a0V K.spaces 1 (i:Nat))
 sl:∀ (i:Nat) s,K.slots[i]?=some s->SwOk s (a0V K.spaces 2 (i:Nat))
theorem a5K {α:Type} {f:α->List Value} {l:List α} {w:World} {v:Value} (hL:Sl nF w 4 v (l.map f)) (hl:l.length<=100000):Fn Tryz.prog 91 [v] w (fun v' w'=>∃ q c,v'=.slice q l.length c/\St nF w w' [.row 136 4 v' (l.map f)]):=by
 obtain ⟨pp,c,rfl⟩:=hL.len;refine yEn Tryz.func91 Tryz.ntmps91 (by kernel_rfl) (by kernel_rfl) rfl rfl ?_;have hS:=St.start w
 cases pp with
 |none=>
  have h0:l.map f=[]:=by
   rcases hL with ⟨p,c',h1,h2⟩|⟨b,off,cap,h1,-⟩
   ·exact h2
   ·cases h1
  have h1:l.length=0:=by simpa using h0
  repeat' (first|(with_reducible apply a5 a4);rfl;rfl;rfl|refine yDn (by with_reducible constructor) ?_|(with_reducible apply a9);rfl;rfl|(with_reducible apply a6P a4);(iterate 4 rfl))
  (refine d4 rfl ?_)
  refine ⟨none,0,by rw [h1],?_⟩;rw [h0];exact (hS.sub (xg7 _)).addNil _ _
 |some p=>
  repeat' (first|(with_reducible apply a5 a4);rfl;rfl;rfl|refine yDn (by with_reducible constructor) ?_|(with_reducible apply f8);rfl;rfl|(with_reducible apply a07 hS a4);(iterate 7 rfl);clear hS;intro g w' hS|(with_reducible apply a6P a4);(iterate 4 rfl)|(with_reducible apply a29 hS a4 0);(iterate 4 rfl);exact (hL.now hS);(simp only [xh7,xd7,xa2,xd6];omega);rfl;intro p' cap' w' hS';simp only [List.set] at hS';clear hS;have hS:=hS';clear hS')
  (refine d4 rfl ?_)
  refine ⟨p',cap',by rw [xa2,xe0,xh7],?_⟩;rw [List.nil_append] at hS;exact hS.sub (by repeat ((exact xh8 _)))
def fxA (x:Sh×Value):Asr:=.row 156 2 x.2 (x.1.fixes.map fxC)
def b3D (p:Sp):Asr:=.row 136 4 p.va (p.s.areas.map arC)
def b2I (p:Sp):Asr:=.row 82 3 p.ve (p.s.entries.map enC)
def b2N (N:List (Sh×Value)):List (List Value):=N.map fun p=>shC p.1 p.2
def nm1 (s:Sc) (k a:Int):List Nm:=(s.entries.filter fun e=>decide (e.kind=k/\e.at_=a)).map (b1P s)
theorem a4W (L:List Sc) (k a:Int):a0V L k a=L.flatMap fun s=>nm1 s k a:=rfl
def b04 (A:List Ar) (nf ns:Int) (e:En):Prop:=(k7 A e.page).isSome=true/\((e.kind=1/\0<=e.at_/\e.at_ < nf)\/(e.kind=2/\0<=e.at_/\e.at_ < ns))
theorem a3T {A:List Ar} {nf ns:Int}:∀ {l:List En} {last:Int},a4O A nf ns last l=true ↔ (∀ e ∈ l,b04 A nf ns e/\last < e.page)/\Rises (a0W l)
 |[],last=>by simp [a4O,Rises,a0W]
 |e::l,last=>by
  show (a7Y A nf ns last e && a4O A nf ns e.page l)=true ↔ _;rw [xb7,a3T (l:=l)];unfold a7Y;rw [xb7,xh4];show _ ↔ _/\List.Pairwise _ (e.page::a0W l);rw [List.pairwise_cons];constructor
  ·rintro ⟨⟨h1,h2,h3⟩,h4,h5⟩;refine ⟨fun x hx=>?_,fun p hp=>?_,h5⟩
   ·rcases xb4.1 hx with rfl|hx
    ·exact ⟨⟨h1,h3⟩,h2⟩
    ·have:=h4 x hx;exact ⟨this.1,by omega⟩
   ·obtain ⟨x,hx,rfl⟩:=xh9.1 hp;exact (h4 x hx).2
  ·rintro ⟨h1,h2,h3⟩;have h0:=h1 e xb5;exact ⟨⟨h0.1.1,h0.2,h0.1.2⟩,fun x hx=>⟨(h1 x (xb6 _ hx)).1,h2 _ (xh9.2 ⟨x,hx,rfl⟩)⟩,h3⟩
structure b3w (sh:List Sh) (nf ns:Int) (s:Sc):Prop where
 dead:s.live=false->s.areas=[]/\s.entries=[]
 ar:b5 s.areas=0
 pages:a7X sh s.areas=true
 ents:∀ e ∈ s.entries,b04 s.areas nf ns e
 rises:Rises (a0W s.entries)
theorem a8B {sh:List Sh} {nf ns:Int} {s:Sc}:a4c sh nf ns s=true ↔ b3w sh nf ns s:=by
 unfold a4c
 cases hl:s.live with
 |false=>
  rw [xd9 (by simp),xh4];constructor
  ·rintro ⟨h1,h2⟩;refine ⟨fun _=>⟨h1,h2⟩,by rw [h1];rfl,by rw [h1];rfl,by rw [h2];simp,by rw [h2];exact List.Pairwise.nil⟩
  ·exact fun h=>h.dead hl
 |true=>
  rw [xd8 rfl,xb7,xb7,xh4,a3T];constructor
  ·rintro ⟨h1,h2,h3,h4⟩;exact ⟨fun h=>(by rw [hl] at h;cases h),h1,h2,fun e he=>(h3 e he).1,h4⟩
  ·intro h;exact ⟨h.ar,h.pages,fun e he=>⟨h.ents e he,a53 h.ar (h.ents e he).1⟩,h.rises⟩
theorem a6w {l:List Fm} {i:Nat} {f:Fm} (h:l[i]?=some f):a45 l i=f:=by unfold a45;rw [h];rfl
theorem a6t {l:List Sw} {i:Nat} {f:Sw} (h:l[i]?=some f):a8a l i=f:=by unfold a8a;rw [h];rfl
theorem SwOk.free {s:Sw} {N:List Nm} (h:SwOk s N) (h0:s.refs=0):N=[]/\s=sw0:=by
 have h1:=h.refs;have:N=[]:=xe1 (by omega);exact ⟨this,h.nil this⟩
theorem FmOk.free {sh:List Sh} {s:Fm} {N:List Nm} (h:FmOk sh s N) (h0:s.refs=0):N=[]/\s=fm0:=by
 have h1:=h.refs;have:N=[]:=xe1 (by omega);exact ⟨this,h.nil this⟩
theorem FmOk.zero (sh:List Sh):FmOk sh fm0 []:=⟨rfl,fun _=>rfl,fun h=>absurd rfl h,(fun _ h=>by cases h),(fun _ h=>by cases h)⟩
theorem SwOk.zero:SwOk sw0 []:=⟨rfl,fun _=>rfl,fun h=>absurd rfl h,(fun _ h=>by cases h)⟩
def b1p (a b:Fm):Prop:=a.data=b.data/\a.refs=b.refs/\a.dirty=b.dirty
theorem FmOk.alike {sh:List Sh} {f g:Fm} {N:List Nm} (h:FmOk sh f N) (ha:b1p g f) (hr:f.refs≠0):FmOk sh g N:=by
 obtain ⟨a1,a2,a3⟩:=ha;refine ⟨by rw [a2];exact h.refs,fun e=>absurd (by rw [h.refs,e];rfl) hr,by rw [a1];exact h.len,h.same,fun n hn=>by rw [a1,a3];exact h.data n hn⟩
theorem a7j {l:List En} {p:Int} {e:En} (h:a3v l p=some e):e ∈ l/\e.page=p:=⟨List.mem_of_find?_eq_some h,by have:=List.find?_some h;simpa using this⟩
theorem a6V {K:Ker} {sp:Nat} {s:Sc} (h:K.spaces[sp]?=some s):a1U K sp=s:=by unfold a1U;rw [h];rfl
theorem a3C {K:Ker} {sp:Nat} (h:K.spaces[sp]?=none):a1U K sp=sc0:=by unfold a1U;rw [h];rfl
theorem a55 {K:Ker} {sp:Nat} {s:Sc} {e:En} (h:K.spaces[sp]?=some s) (he:e ∈ s.entries):b1P s e ∈ a0V K.spaces e.kind e.at_:=by
 rw [a4W,List.mem_flatMap];refine ⟨s,xc1 h,?_⟩;unfold nm1;exact xh9.2 ⟨e,xi0.2 ⟨he,by simp⟩,rfl⟩
theorem Right.ent {K:Ker} (h:Right K) {sp:Nat} {s:Sc} {e:En} (hs:K.spaces[sp]?=some s) (he:e ∈ s.entries) :
  (k7 s.areas e.page).isSome=true/\((e.kind=1/\(∃ f:Nat,e.at_=(f:Nat)/\f < K.frames.length))\/(e.kind=2/\∃ f:Nat,e.at_=(f:Nat)/\f < K.slots.length)):=by
 have h1:=(a8B.1 (h.spaces s (xc1 hs))).ents e he;refine ⟨h1.1,?_⟩;rcases h1.2 with ⟨a,b,c⟩|⟨a,b,c⟩
 ·exact xc7 ⟨a,e.at_.toNat,by omega,by omega⟩
 ·exact xc4 ⟨a,e.at_.toNat,by omega,by omega⟩
structure SameP (K K':Ker):Prop where
 sheets:K'.sheets=K.sheets
 nfr:K'.frames.length=K.frames.length
 nsl:K'.slots.length=K.slots.length
 nsp:K'.spaces.length=K.spaces.length
 ar:∀ sp,y6 K' sp=y6 K sp
 live:∀ sp,(a1U K' sp).live=(a1U K sp).live
 peek:∀ sp p,a31 K' sp p=a31 K sp p
theorem SameP.refl (K:Ker):SameP K K:=⟨rfl,rfl,rfl,rfl,fun _=>rfl,fun _=>rfl,fun _ _=>rfl⟩
theorem SameP.trans {K K' K2:Ker} (h:SameP K K') (h2:SameP K' K2):SameP K K2:=⟨h2.sheets.trans h.sheets,h2.nfr.trans h.nfr,h2.nsl.trans h.nsl,h2.nsp.trans h.nsp,fun s=>(h2.ar s).trans (h.ar s),fun s=>(h2.live s).trans (h.live s),fun s p=>(h2.peek s p).trans (h.peek s p)⟩
structure InOk (K K':Ker) (sp:Nat) (page:Int) (f:Nat) (data:List UInt8) (dirty:Bool):Prop where
 right:Right K'
 sheets:K'.sheets=K.sheets
 nfr:K'.frames.length=K.frames.length
 nsl:K'.slots.length=K.slots.length
 nsp:K'.spaces.length=K.spaces.length
 ar:∀ i,y6 K' i=y6 K i
 live:∀ i,(a1U K' i).live=(a1U K i).live
 peek:∀ i p,¬(i=sp/\p=page)->a31 K' i p=a31 K i p
 here:a31 K' sp page=data
 ent:∀ i p,a3v (a1B K' i) p=if i=sp/\p=page then some ⟨page,1,(f:Nat)⟩ else a3v (a1B K i) p
 fm:a45 K'.frames f=⟨data,1,dirty,false⟩
 other:∀ i,i≠f->(∀ w0,a3v (a1B K sp) page=some w0->¬(w0.kind=1/\w0.at_=((i:Nat):Int)))->a45 K'.frames i=a45 K.frames i
structure At (K:Ker) (sp:Nat) (page:Int):Prop where
 live:(a1U K sp).live=true
 ar:(k7 (y6 K sp) page).isSome=true
theorem At.sc {K:Ker} {sp:Nat} {page:Int} (h:At K sp page):∃ s,K.spaces[sp]?=some s/\s.live=true/\(k7 s.areas page).isSome=true:=by
 have h1:=h.live;have h2:=h.ar;unfold y6 at h2
 cases hs:K.spaces[sp]? with
 |none=>rw [a3C hs] at h1;cases h1
 |some s=>rw [a6V hs] at h1 h2;exact ⟨s,rfl,h1,h2⟩
theorem At.same {K K':Ker} {sp:Nat} {page:Int} (h:At K sp page) (h1:∀ i,y6 K' i=y6 K i) (h2:∀ i,(a1U K' i).live=(a1U K i).live):At K' sp page:=⟨(h2 sp).trans h.live,by rw [h1];exact h.ar⟩
theorem named {K:Ker} (h:Right K) {sp:Nat} {p:Int} {e:En} (he:a3v (a1B K sp) p=some e) :
  e.page=p/\((e.kind=1/\∃ i:Nat,e.at_=(i:Nat)/\i < K.frames.length/\(a45 K.frames i).refs≠0/\(a45 K.frames i).data.length=16)\/(e.kind=2/\∃ i:Nat,e.at_=(i:Nat)/\i < K.slots.length/\(a8a K.slots i).refs≠0/\(a8a K.slots i).data.length=16))/\∃ s,K.spaces[sp]?=some s/\e ∈ s.entries:=by
 obtain ⟨h1,h2⟩:=a7j he
 cases hs:K.spaces[sp]? with
 |none=>unfold a1B at h1;rw [a3C hs] at h1;cases h1
 |some s=>
  have h3:e ∈ s.entries:=by unfold a1B at h1;rwa [a6V hs] at h1
  have hn:=a55 hs h3;refine ⟨h2,?_,s,rfl,h3⟩;rcases (h.ent hs h3).2 with ⟨a,i,b,c⟩|⟨a,i,b,c⟩
  ·have ho:=h.fr i _ (xd1 c);rw [a,b] at hn;refine xc7 ⟨a,i,b,c,?_,?_⟩
   ·rw [a6w (xd1 c),ho.refs];intro e0;have:a0V K.spaces 1 (i:Nat)=[]:=xe1 (by omega);rw [this] at hn
    cases hn
   ·rw [a6w (xd1 c)];exact ho.len (fun e0=>by rw [e0] at hn;cases hn)
  ·have ho:=h.sl i _ (xd1 c);rw [a,b] at hn;refine xc4 ⟨a,i,b,c,?_,?_⟩
   ·rw [a6t (xd1 c),ho.refs];intro e0;have:a0V K.spaces 2 (i:Nat)=[]:=xe1 (by omega);rw [this] at hn
    cases hn
   ·rw [a6t (xd1 c)];exact ho.len (fun e0=>by rw [e0] at hn;cases hn)
theorem InOk.same {K K' K2:Ker} {sp:Nat} {page:Int} {f:Nat} {data:List UInt8} {dirty:Bool} (h:InOk K' K2 sp page f data dirty) (h0:SameP K K') (hp:data=a31 K sp page):SameP K K2:=by
 refine ⟨h.sheets.trans h0.sheets,h.nfr.trans h0.nfr,h.nsl.trans h0.nsl,h.nsp.trans h0.nsp,fun i=>(h.ar i).trans (h0.ar i),fun i=>(h.live i).trans (h0.live i),fun i p=>?_⟩;by_cases e:i=sp/\p=page
 ·obtain ⟨rfl,rfl⟩:=e;rw [h.here,hp]
 ·rw [h.peek i p e,h0.peek]
def wkB (k:KV) (sp:Nat) (vh:Value):List Value:=[k.vsh,k.vfr,k.vsl,k.vsp,.int .i64 k.hand,.int .i64 (sp:Nat),vh]
def hdA (vh:Value) (held:List Nat):Asr:=.row 3 1 vh (held.map fun i=>[.int .i64 (i:Nat)])
def frA (k:KV):Asr:=.row 84 4 k.vfr (k.fr.map fmC)
def slA (k:KV):Asr:=.row 88 2 k.vsl (k.sl.map swC)
def b2G (k:KV):Asr:=.row 78 3 k.vsp (k.sp.map spC)
def wkS (g:Nat) (k:KV) (sp:Nat) (vh:Value) (held:List Nat):List Asr:=.blk g (wkB k sp vh)::hdA vh held::frA k::slA k::b2G k::k.sp.map b2I
structure KRo (F:Nat->Prop) (w:World) (k:KV):Prop where
 sh:ShsF F w k.sh k.vsh
 ar:∀ p ∈ k.sp,Sl F w 4 p.va (p.s.areas.map arC)
structure KLike (k k':KV):Prop where
 sh:k'.sh=k.sh
 vsh:k'.vsh=k.vsh
 ar:k'.sp.map (fun p=>(p.va,p.s.areas))=k.sp.map (fun p=>(p.va,p.s.areas))
theorem KLike.refl (k:KV):KLike k k:=⟨rfl,rfl,rfl⟩
theorem KLike.trans {k k' k2:KV} (h:KLike k k') (h2:KLike k' k2):KLike k k2:=⟨h2.sh.trans h.sh,h2.vsh.trans h.vsh,h2.ar.trans h.ar⟩
structure WkV (w:World) (g:Nat) (k:KV) (sp:Nat) (vh:Value) (held:List Nat):Prop where
 c0:Bs nF w ⟨g,0,none⟩ k.vsh
 c1:Bs nF w ⟨g,1,none⟩ k.vfr
 c2:Bs nF w ⟨g,2,none⟩ k.vsl
 c3:Bs nF w ⟨g,3,none⟩ k.vsp
 c4:Bs nF w ⟨g,4,none⟩ (.int .i64 k.hand)
 c5:Bs nF w ⟨g,5,none⟩ (.int .i64 (sp:Nat))
 c6:Bs nF w ⟨g,6,none⟩ vh
 held:Sl nF w 1 vh (held.map fun i=>[.int .i64 (i:Nat)])
 ker:KerV w k
theorem WkV.of {F:Nat->Prop} {w0 w:World} {Γ:List Asr} {g:Nat} {k:KV} {sp:Nat} {vh:Value} {held:List Nat} (hS:St F w0 w (wkS g k sp vh held++Γ)) (hR:KRo F w0 k):WkV w g k sp vh held:=by
 refine ⟨Bs.of (hS.blkC 0 rfl rfl),Bs.of (hS.blkC 0 rfl rfl),Bs.of (hS.blkC 0 rfl rfl),Bs.of (hS.blkC 0 rfl rfl),Bs.of (hS.blkC 0 rfl rfl),Bs.of (hS.blkC 0 rfl rfl),Bs.of (hS.blkC 0 rfl rfl),hS.rowSl 1 rfl,⟨hR.sh.now hS,hS.rowSl 2 rfl,hS.rowSl 3 rfl,hS.rowSl 4 rfl,fun p hp=>⟨(hR.ar p hp).now hS,?_⟩⟩⟩;refine hS.slMem (e:=82) (xd3 _ ?_);unfold wkS;exact xb6 _ (xb6 _ (xb6 _ (xb6 _ (xb6 _ (xh9.2 ⟨p,hp,rfl⟩)))))
theorem WkV.now {w w':World} {Γ:List Asr} {g:Nat} {k:KV} {sp:Nat} {vh:Value} {held:List Nat} (h:WkV w g k sp vh held) (hS:St nF w w' Γ):WkV w' g k sp vh held :=
 ⟨Bs.of (hS.bs h.c0),Bs.of (hS.bs h.c1),Bs.of (hS.bs h.c2),Bs.of (hS.bs h.c3),Bs.of (hS.bs h.c4),Bs.of (hS.bs h.c5),Bs.of (hS.bs h.c6),h.held.now hS,h.ker.now hS⟩
def b0S (K:Ker) (space:Int):Int:=if a8K K=0 then (if 0<=space/\space < (K.spaces.length:Int)/\(a1U K space.toNat).live=true then 0 else 6) else a8K K
def b1h (K:Ker) (space size way:Int):Int:=if b0S K space=0 then (if size < 1\/8 < size then 3 else if way < 0\/2 < way then 10 else 0) else b0S K space
def b2g (A:List Ar) (way at_:Int):Option (Int×Int):=match k7 A (at_.tdiv 16) with
 |none=>some (1,at_)
 |some a=>if at_ < 0 then some (1,at_) else if (way=1/\¬(a.prot=1\/a.prot=3))\/(way=2/\a.prot < 2) then some (2,at_) else none
def b1H (A:List Ar) (addr size way:Int):Int×Int:=if way=2/\addr.tmod 8≠0 then (3,addr) else ((List.range size.toNat).findSome? fun i=>b2g A way (addr + (i:Nat))).getD (0,0)
def a49 (k:KV):List Asr:=.row 142 3 k.vsh (b2N k.sh)::(k.sh.map fxA++k.sp.map b3D)
theorem KRo.own {F:Nat->Prop} {w0 w:World} {g:Nat} {k:KV} {sp:Nat} {vh:Value} {held:List Nat} {Γ:List Asr} (hS:St F w0 w (wkS g k sp vh held++(a49 k++Γ))):KRo (fps (wkS g k sp vh held)) w k:=by
 have hmem:∀ {e sz:Nat} {v:Value} {rows:List (List Value)},Asr.row e sz v rows ∈ a49 k->Sl (fps (wkS g k sp vh held)) w sz v rows:=fun h=>by
  obtain ⟨j,hj⟩:=xc9.1 (xd3 Γ h);exact hS.ownSl j hj
 refine ⟨⟨hmem xb5,fun p hp=>?_⟩,fun p hp=>?_⟩
 ·exact hmem (e:=156) (xb6 _ (xd3 _ (xh9.2 ⟨p,hp,rfl⟩)))
 ·exact hmem (e:=136) (xb6 _ (List.mem_append_right _ (xh9.2 ⟨p,hp,rfl⟩)))
theorem WkV.own {F:Nat->Prop} {w0 w:World} {g:Nat} {k:KV} {sp:Nat} {vh:Value} {held:List Nat} {Γ:List Asr} (hS:St F w0 w (wkS g k sp vh held++(a49 k++Γ))):WkV w g k sp vh held :=
 WkV.of (Γ:=[]) (by rw [xi1];exact St.startM hS) (KRo.own hS)
def b0i (k:KV):List Asr:=frA k::slA k::b2G k::(k.sp.map b2I++a49 k)
theorem KerV.own {F:Nat->Prop} {w0 w:World} {k:KV} {Γ:List Asr} (hS:St F w0 w (b0i k++Γ)):KerV w k:=by
 have hmem:∀ {e sz:Nat} {v:Value} {rows:List (List Value)},Asr.row e sz v rows ∈ b0i k->Sl nF w sz v rows:=fun h=>hS.slMem (xd3 Γ h);have hr:∀ {A},A ∈ a49 k->A ∈ b0i k:=fun h=>xb6 _ (xb6 _ (xb6 _ (List.mem_append_right _ h)));refine ⟨⟨hmem (e:=142) (hr xb5),fun p hp=>?_⟩,hmem (e:=84) xb5,hmem (e:=88) (xb6 _ xb5),hmem (e:=78) (xb6 _ (xb6 _ xb5)),fun p hp=>⟨?_,?_⟩⟩
 ·exact hmem (e:=156) (hr (xb6 _ (xd3 _ (xh9.2 ⟨p,hp,rfl⟩))))
 ·exact hmem (e:=136) (hr (xb6 _ (List.mem_append_right _ (xh9.2 ⟨p,hp,rfl⟩))))
 ·exact hmem (e:=82) (xb6 _ (xb6 _ (xb6 _ (xd3 _ (xh9.2 ⟨p,hp,rfl⟩)))))
def kv0:KV:=⟨[],[],[],[],0,.slice none 0 0,.slice none 0 0,.slice none 0 0,.slice none 0 0⟩
def Came (w w':World) (k:KV):Prop:=(k=kv0/\St nF w w' [])\/St nF w w' (b0i k)
theorem Came.st {w w':World} {k:KV} (h:Came w w' k):St nF w w' []:=by
 rcases h with ⟨-,h⟩|h
 ·exact h
 ·exact h.sub (xg7 _)
def okR (K:Ker) (space addr size way:Int):Prop:=b1h K space size way=0/\(b1H (y6 K space.toNat) addr size way).1=0
instance (K:Ker) (space addr size way:Int):Decidable (okR K space addr size way):=by unfold okR;infer_instance
section
variable {P:Program} {n:Nat} {ds:List Deferred} {E:Fr} {ops:Array Oper} {rest:List Oper} {d:Nat} {ty:TypeId} {pos:String} {after:Array Edge} {T:Tab}
end
section
variable {P:Program} {n:Nat} {ds:List Deferred} {E:Fr} {w:World} {Q:Exit->Act->World->Prop} {ops:Array Oper} {S:World->Prop} {fuel:Nat} {li:Array Bool} {d:Nat} {op:Op} {ty:TypeId} {pos:String} {after:Array Edge} {F:Nat->Prop} {w0:World} {Γ:List Asr} {T:Tab}
end
def okL (K:Ker) (space addr size way:Int):Prop:=okR K space addr size way/\way≠1
instance (K:Ker) (space addr size way:Int):Decidable (okL K space addr size way):=by unfold okL;infer_instance
theorem a3J:∀ {l:List Ar} {e:Int},l0 e l->e<=256->s8 e l<=256
 |[],_,_,h=>h
 |a::l,e,h,_=>a3J (l:=l) (e:=a.fin) h.2.2 (by have:=h.1;unfold Ar.ok at this;unfold Ar.fin;omega)
theorem b08 {A:List Ar} {L:List Sh} {en:Int} (h:l7 A L en=0):b5 A=0/\A.length<=255/\L.length<=255/\∀ S ∈ L,S.fixes.length<=16:=by
 unfold l7 at h;by_cases h1:b5 A=0
 ·rw [xd8 h1] at h;by_cases h2:lkB A L en=true
  ·unfold lkB at h2;rw [a4B] at h2;simp only [xb7,xh4] at h2;obtain ⟨h3,⟨h4,-⟩,-⟩:=h2;obtain ⟨h5,h6⟩:=o3.1 h1;have h7:=(a7B (l:=A) (q:=1) (q':=256) h6.1 (a3J h6.1 (by omega)) (by omega)).1;exact ⟨h1,h5,by omega,fun S hS=>a2N ((a2c h4).1 S hS).1⟩
  ·rw [xd9 h2] at h;cases h
 ·rw [xd9 h1] at h;exact absurd h h1
def pgS (S:Sh):Fp:=⟨S.page,a5s S⟩
def b1s (A:List Ar) (L:List Sh) (en slots:Int):Flt:=⟨slots,[⟨true,A,L.map pgS⟩],[pr1 en],[]⟩
theorem b0Z {A:List Ar} {L:List Sh} {en:Int} (h:l7 A L en=0):(L.length:Int)=l6 A/\∀ S ∈ L,j8 S=true:=by
 unfold l7 at h;by_cases h1:b5 A=0
 ·rw [xd8 h1] at h;by_cases h2:lkB A L en=true
  ·unfold lkB at h2;rw [a4B] at h2;simp only [xb7,xh4] at h2;obtain ⟨h3,⟨h4,-⟩,-⟩:=h2;exact ⟨h3,fun S hS=>((a2c h4).1 S hS).1⟩
  ·rw [xd9 h2] at h;cases h
 ·rw [xd9 h1] at h;exact absurd h h1
theorem a6B {w w':World} {Γ:List Asr} {A:List Ar} {L:List Fp} {en slots:Int} {va vp vP vB:Value} (h:St nF w w' (.row 139 3 vB [[.bool true,va,vp]]::.row 123 13 vP ([pr1 en].map prC)::.row 120 2 (.slice none 0 0) []::.row 136 4 va (A.map arC)::.row 145 2 vp (L.map fpC)::Γ)):St nF w w' (fA ⟨slots,[(⟨true,A,L⟩,va,vp)],[pr1 en],[],vB,vP,.slice none 0 0⟩) :=
 h.sub (.cons_cons _ (.cons_cons _ (.cons_cons _ (.cons_cons _ (.cons_cons _ (xg7 _))))))
theorem a5Z {w:World} {A:List Ar} {Lp:List (Sh×Value)} {va vs:Value} {en:Int} (hA:Sl nF w 4 va (A.map arC)) (hL:ShsV w Lp vs) (hen:-9223372036854775808<=en) (hen2:en<=9223372036854775807) {slots:Int}:Fn Tryz.prog 34 [lkA va vs en,.int .i64 slots] w (fun v w'=>∃ f:FlV,v=.tuple #[.agg (flC f).toArray,.int .i64 (a1L A (shs Lp) en slots)]/\f.F=(if a1L A (shs Lp) en slots=0 then b1s A (shs Lp) en slots else b23)/\St nF w w' (fA f)):=by
 have hchk:=fun w1 Γ1 (h:St nF w w1 Γ1)=>a6o (hA.now h) (hL.now h) hen hen2;obtain ⟨RE,hRE⟩:∃ e,e=a1L A (shs Lp) en slots:=⟨_,rfl⟩;rw [<- hRE];unfold a1L at hRE;have bL:=hL.sl.bound;obtain ⟨pa,ca,rfl⟩:=hA.len;obtain ⟨ph,ch,rfl⟩:=hL.sl.len;unfold lkA at hchk |-;have hno:∀ {w1 Γ1},St nF w w1 Γ1->∀ {e:Int},e≠0->∃ f:FlV,Value.tuple #[.agg #[.int .i64 0,.slice none 0 0,.slice none 0 0,.slice none 0 0],.int .i64 e]=.tuple #[.agg (flC f).toArray,.int .i64 e]/\f.F=(if e=0 then b1s A (shs Lp) en slots else b23)/\St nF w w1 (fA f):=by
  intro w1 Γ1 h e he;exact ⟨fl0,rfl,by rw [xd9 he];rfl,b21 h⟩
 by_cases h0:l7 A (shs Lp) en=0;rotate_left
 ·rw [xd9 h0] at hRE;have hd:(!decide (l7 A (shs Lp) en=0))=true:=by rw [xg8 h0];rfl
  rw [<- hRE] at hd hchk h0;refine yEn Tryz.func34 Tryz.ntmps34 (by kernel_rfl) (by kernel_rfl) rfl rfl ?_;have hS:=St.start w
  repeat' (first|(with_reducible apply a5 a4);rfl;rfl;rfl|(with_reducible apply a6);rfl;(apply Ld.st a4;rfl;exact hS.blkR 1 rfl;rfl);rfl|(with_reducible apply s6 a4);rfl;rfl;exact (rfl:_=some [_,_,_,_]);rfl|refine yDn (by with_reducible constructor) ?_|(with_reducible apply a9);rfl;assumption|(with_reducible apply d8 hS);rfl;rfl;rfl;clear hS;intro g w' hS|(with_reducible apply b8 hS a4);rfl;rfl;rfl;clear hS;intro g w' hS|(with_reducible apply b7 hS a4 (i:=0));(iterate 8 rfl);exact (rfl:_=[_,_,_,_]);clear hS;intro w' hS;simp only [List.set] at hS|(with_reducible apply b4 hS);rfl;rfl;rfl;refine ⟨_,hchk _ _ hS,?_⟩;clear hS;intro w' hS)
  (apply a2d;repeat (first|exact ResL.nil|apply ResL.tmp;rfl|apply ResL.cell;rfl;(apply Ld.st a4;rfl;exact hS.blkR 0 rfl;rfl)))
  exact hno hS h0
 rw [xd8 h0] at hRE;rw [h0] at hchk;obtain ⟨hc,hb1,hb2,hb3⟩:=b08 h0;obtain ⟨hlen,hrt⟩:=b0Z h0;rw [a0f] at hlen hb2;by_cases h1:slots < 0\/512 < slots
 ·rw [xd8 h1] at hRE;subst hRE;refine yEn Tryz.func34 Tryz.ntmps34 (by kernel_rfl) (by kernel_rfl) rfl rfl ?_;have hS:=St.start w
  repeat' (first|(with_reducible apply a5 a4);rfl;rfl;rfl|(with_reducible apply a6);rfl;(apply Ld.st a4;rfl;exact hS.blkR 1 rfl;rfl);rfl|(with_reducible apply s6 a4);rfl;rfl;exact (rfl:_=some [_,_,_,_]);rfl|refine yDn (by with_reducible constructor) ?_|(with_reducible apply e9);(iterate 4 rfl);assumption|(with_reducible apply o4);(iterate 4 rfl);assumption;rfl|(with_reducible apply d9);rfl;assumption;rfl;rfl|(with_reducible apply a7);rfl;assumption;rfl;rfl|(with_reducible apply a9);rfl;rfl|(with_reducible apply f8);rfl;rfl|(with_reducible apply d8 hS);rfl;rfl;rfl;clear hS;intro g w' hS|(with_reducible apply b8 hS a4);rfl;rfl;rfl;clear hS;intro g w' hS|(with_reducible apply b7 hS a4 (i:=0));(iterate 8 rfl);exact (rfl:_=[_,_,_,_]);clear hS;intro w' hS;simp only [List.set] at hS|(with_reducible apply v8);rfl;rfl;rfl;all_goals (intro hb hp;try (exfalso;omega))|(with_reducible apply b6);rfl;all_goals (intro hb hp;try (exfalso;omega))|(with_reducible apply b4 hS);rfl;rfl;rfl;refine ⟨_,hchk _ _ hS,?_⟩;clear hS;intro w' hS)
  all_goals ((apply a2d;repeat (first|exact ResL.nil|apply ResL.tmp;rfl|apply ResL.cell;rfl;(apply Ld.st a4;rfl;exact hS.blkR 0 rfl;rfl))))
  all_goals (exact hno hS (by omega))
 rw [xd9 h1] at hRE;have hd2:decide (slots < 0)=false:=xg8 (by omega);have hd3:decide (512 < slots)=false:=xg8 (by omega);by_cases h3:slots < l6 A
 ·rw [xd8 h3] at hRE;subst hRE;have hd5:decide (slots < (Lp.length:Int))=true:=xh0 (by omega);refine yEn Tryz.func34 Tryz.ntmps34 (by kernel_rfl) (by kernel_rfl) rfl rfl ?_;have hS:=St.start w
  repeat' (first|(with_reducible apply a5 a4);rfl;rfl;rfl|(with_reducible apply a6);rfl;(first|apply Ld.sl a4;rfl;exact hS.blkC 1 rfl rfl|apply Ld.st a4;rfl;exact hS.blkR 1 rfl;rfl);rfl|(with_reducible apply s6 a4);rfl;rfl;exact (rfl:_=some [_,_,_,_]);rfl|refine yDn (by with_reducible constructor) ?_|(with_reducible apply e9);(iterate 4 rfl);assumption|(with_reducible apply a7);rfl;assumption;rfl;rfl|(with_reducible apply a9);rfl;assumption|((with_reducible apply f8);rfl;first|rfl|assumption)|(with_reducible apply d8 hS);rfl;rfl;rfl;clear hS;intro g w' hS|(with_reducible apply b8 hS a4);rfl;rfl;rfl;clear hS;intro g w' hS|(with_reducible apply b7 hS a4 (i:=0));(iterate 8 rfl);exact (rfl:_=[_,_,_,_]);clear hS;intro w' hS;simp only [List.set] at hS|(with_reducible apply b4 hS);rfl;rfl;rfl;refine ⟨_,hchk _ _ hS,?_⟩;clear hS;intro w' hS)
  (apply a2d;repeat (first|exact ResL.nil|apply ResL.tmp;rfl|apply ResL.cell;rfl;(apply Ld.st a4;rfl;exact hS.blkR 0 rfl;rfl)))
  exact hno hS (by omega)
 rw [xd9 h3] at hRE;subst hRE;rw [xd8 rfl];have hd5:decide (slots < (Lp.length:Int))=false:=xg8 (by omega);refine yEn Tryz.func34 Tryz.ntmps34 (by kernel_rfl) (by kernel_rfl) rfl rfl ?_;have hS:=St.start w
 (repeat ((refine yDn (by with_reducible constructor) ?_)))
 (((with_reducible apply d8 hS);rfl;rfl;rfl);clear hS;intro g2 w' hS)
 (repeat (fail))
 (((with_reducible apply b8 hS a4);rfl;rfl;rfl);clear hS;intro g4 w' hS)
 repeat' (first|(with_reducible apply a5 a4);rfl;rfl;rfl|(with_reducible apply a6);rfl;(first|apply Ld.sl a4;rfl;(first|exact hS.blkC 1 rfl rfl|exact hS.blkC 3 rfl rfl)|apply Ld.st a4;rfl;exact hS.blkR 1 rfl;rfl);rfl|(with_reducible apply s6 a4);rfl;rfl;exact (rfl:_=some [_,_,_]);rfl|refine yDn (by with_reducible constructor) ?_|(with_reducible apply e9);(iterate 4 rfl);assumption|(with_reducible apply a7);rfl;assumption;rfl;rfl|((with_reducible apply f8);rfl;first|rfl|assumption)|(with_reducible apply b8 hS a4);rfl;rfl;rfl;clear hS;intro g w' hS|(with_reducible apply b7 hS a4 (i:=0));(iterate 8 rfl);exact (rfl:_=[_,_,_]);clear hS;intro w' hS;simp only [List.set] at hS|(with_reducible apply b4 hS);rfl;rfl;rfl;refine ⟨_,hchk _ _ hS,?_⟩;clear hS;intro w' hS|(with_reducible apply a4h);rfl;rfl;rfl;refine ⟨_,a5K (hA.now hS) (by omega),?_⟩;rintro _ w' ⟨qa,da,rfl,hS'⟩;replace hS:=hS.transA hS';simp only [a1N] at hS;clear hS')
 replace hS:=(hS.addNil 145 2).reorder [1,0,2,3,4] (by decide) rfl;have hsl:=hL.sl;refine o6 (F:=nF) (w0:=w) (X:=Option Addr×Nat×List Fp) (fun x=>[(38,.int .i64 (x.2.2.length:Nat))]) [1,2,4,7,36,37] rfl (fun x=>[.blk g [.bool true,.slice qa A.length da,.slice x.1 x.2.2.length x.2.1],.row 145 2 (.slice x.1 x.2.2.length x.2.1) (x.2.2.map fpC)]) (fun x=>x.2.2.length<=Lp.length/\x.2.2=((shs Lp).map pgS).take x.2.2.length) (fun x=>Lp.length - x.2.2.length) (none,0,[]) (by exact Fr.sub_of rfl) ⟨xf0 _,rfl⟩ hS ?_;clear hS;rintro ⟨qp,dp,N⟩ w1 ⟨hN,hNs⟩ hS;dsimp only [List.cons_append,List.nil_append] at hN hNs hS |-;by_cases hlt:N.length < Lp.length;rotate_left
 ·have hNe:N=(shs Lp).map pgS:=by rw [hNs,xa0 (by rw [xh7,a0f];omega)]
  clear hNs;obtain rfl:=hNe
  repeat' (first|(with_reducible apply a5 a4);rfl;rfl;rfl|refine yDn (by with_reducible constructor) ?_|(with_reducible apply b6);rfl;all_goals (intro hb hp;try (exfalso;omega)))
  refine a5T (fun w'=>St nF w w' [.blk g [.bool true,.slice qa A.length da,.slice qp ((shs Lp).map pgS).length dp],.blk g2 [.slice pa A.length ca,.slice ph Lp.length ch,.int .i64 en]]) 9 rfl hS (by kernel_rfl) ?_;intro w1 hS';clear hS;have hS:=hS';clear hS'
  ((with_reducible apply i3 (nn 0) a4);rfl;kernel_rfl;exact (fun _ _ _ h=>h);exact (hS.sub (by repeat (first|exact xh8 _|apply List.Sublist.cons_cons|apply xi2)));rfl;rfl)
  ((with_reducible apply n9 (nn 1));rfl;kernel_rfl;exact (fun _ _ _ h=>h);exact (hS.sub (by repeat (first|exact xh8 _|apply List.Sublist.cons_cons|apply xi2)));rfl;(intro wd hd;replace hd:St _ _ wd _:=hd;(apply Ld.st a4;rfl;exact hd.blkR 0 rfl;rfl));rfl)
  ((with_reducible apply i3 (nn 3) a4);rfl;kernel_rfl;exact (fun _ _ _ h=>h);exact (hS.sub (by repeat (first|exact xh8 _|apply List.Sublist.cons_cons|apply xi2)));rfl;rfl)
  ((with_reducible apply n9 (nn 4));rfl;kernel_rfl;exact (fun _ _ _ h=>h);exact (hS.sub (by repeat (first|exact xh8 _|apply List.Sublist.cons_cons|apply xi2)));rfl;(intro wd hd;replace hd:St _ _ wd _:=hd;(apply Ld.sc a4;rfl;exact hd.blkC 1 rfl rfl));rfl)
  refine a4G (i:=2) (j:=5) (by kernel_rfl) ?_ ?_
  ·refine o7 rfl (a0j hS a4 rfl rfl rfl rfl rfl rfl) rfl ?_;rintro _ w' ⟨gB,rfl,hS'⟩;clear hS;have hS:=hS';clear hS';refine ⟨(hS.sub (by repeat (first|exact xh8 _|apply List.Sublist.cons_cons|apply xi2))),?_⟩;refine s7 (i:=5) (by kernel_rfl) ?_;refine o7 rfl (a0n (first:=[]) (caps:=[]) rfl rfl (a5e en _)) rfl ?_;rintro _ w' ⟨gP,rfl,hS'⟩;replace hS:=hS.transA hS';simp only [a1N] at hS;clear hS';refine ⟨(hS.sub (by repeat (first|exact xh8 _|apply List.Sublist.cons_cons|apply xi2))),?_⟩
   ((with_reducible apply a2D (nn 6) a4);rfl;kernel_rfl;kernel_rfl;kernel_rfl;exact (fun _ _ _ _ h=>h);exact (hS.sub (by repeat (first|exact xh8 _|apply List.Sublist.cons_cons|apply xi2)));rfl;rfl;exact (rfl:_=some [_,_,_,_]);rfl)
   refine s7 (i:=7) (by kernel_rfl) ?_;refine t4 (Φ:=fun _ w'=>St _ _ w' _) rfl (p9 hS a4 (i:=5) rfl rfl rfl rfl rfl (xe8 rfl) (xb8.1 rfl)) ?_;intro _ w' hS';simp only [List.set] at hS';clear hS;have hS:=hS';clear hS';refine ⟨(hS.sub (by repeat (first|exact xh8 _|apply List.Sublist.cons_cons|apply xi2))),?_⟩
   ((with_reducible apply i3 (nn 8) a4);rfl;kernel_rfl;exact (fun _ _ _ h=>h);exact (hS.sub (by repeat (first|exact xh8 _|apply List.Sublist.cons_cons|apply xi2)));rfl;rfl)
   refine a0u (by kernel_rfl) ?_
   repeat' ((refine yDn (by with_reducible constructor) ?_))
   (apply a2d;repeat (first|exact ResL.nil|apply ResL.tmp;rfl|apply ResL.cell;rfl;(apply Ld.st a4;rfl;exact hS.blkR 5 rfl;rfl)))
   exact ⟨⟨slots,[(⟨true,A,(shs Lp).map pgS⟩,_,_)],[pr1 en],[],.slice (some ⟨gB,0,none⟩) 1 1,.slice (some ⟨gP,0,none⟩) 1 1,.slice none 0 0⟩,rfl,rfl,a6B ((hS.addNil 120 2).reorder [2,1,0,5,4] (by decide) rfl)⟩
  ·refine o7 rfl (a0n (first:=[]) (caps:=[]) rfl rfl (a5e en _)) rfl ?_;rintro _ w' ⟨gP,rfl,hS'⟩;replace hS:=hS.transA hS';simp only [a1N] at hS;clear hS';refine ⟨(hS.sub (by repeat (first|exact xh8 _|apply List.Sublist.cons_cons|apply xi2))),?_⟩;refine s7 (i:=2) (by kernel_rfl) ?_;refine o7 rfl (a0j hS a4 rfl rfl rfl rfl rfl rfl) rfl ?_;rintro _ w' ⟨gB,rfl,hS'⟩;clear hS;have hS:=hS';clear hS';refine ⟨(hS.sub (by repeat (first|exact xh8 _|apply List.Sublist.cons_cons|apply xi2))),?_⟩
   ((with_reducible apply a2D (nn 6) a4);rfl;kernel_rfl;kernel_rfl;kernel_rfl;exact (fun _ _ _ _ h=>h);exact (hS.sub (by repeat (first|exact xh8 _|apply List.Sublist.cons_cons|apply xi2)));rfl;rfl;exact (rfl:_=some [_,_,_,_]);rfl)
   refine s7 (i:=7) (by kernel_rfl) ?_;refine t4 (Φ:=fun _ w'=>St _ _ w' _) rfl (p9 hS a4 (i:=5) rfl rfl rfl rfl rfl (xe8 rfl) (xb8.1 rfl)) ?_;intro _ w' hS';simp only [List.set] at hS';clear hS;have hS:=hS';clear hS';refine ⟨(hS.sub (by repeat (first|exact xh8 _|apply List.Sublist.cons_cons|apply xi2))),?_⟩
   ((with_reducible apply i3 (nn 8) a4);rfl;kernel_rfl;exact (fun _ _ _ h=>h);exact (hS.sub (by repeat (first|exact xh8 _|apply List.Sublist.cons_cons|apply xi2)));rfl;rfl)
   refine a0u (by kernel_rfl) ?_
   repeat' ((refine yDn (by with_reducible constructor) ?_))
   (apply a2d;repeat (first|exact ResL.nil|apply ResL.tmp;rfl|apply ResL.cell;rfl;(apply Ld.st a4;rfl;exact hS.blkR 5 rfl;rfl)))
   exact ⟨⟨slots,[(⟨true,A,(shs Lp).map pgS⟩,_,_)],[pr1 en],[],.slice (some ⟨gB,0,none⟩) 1 1,.slice (some ⟨gP,0,none⟩) 1 1,.slice none 0 0⟩,rfl,rfl,a6B ((hS.addNil 120 2).reorder [1,2,0,5,4] (by decide) rfl)⟩
 obtain ⟨x,hx⟩:=l9 (l:=Lp) (i:=N.length) (by omega);have hrow:=i7 (f:=fun p:Sh×Value=>shC p.1 p.2) hx;obtain ⟨b,off,rfl,hro⟩:=hsl.at_ (i:=N.length) hlt;have hfx:=hL.fx x (xc1 hx);have hxs:((shs Lp).map pgS)[N.length]?=some (pgS x.1):=i7 (a1I hx);have hR:=hrt x.1 (xc1 (a1I hx));have hfi:=fun w1 (h:ShV w1 x.1 x.2)=>a92 h;simp only [hR,↓reduceIte] at hfi;obtain ⟨S,u⟩:=x;dsimp only [shC] at hrow hfx hfi hxs;unfold shA shC at hfi;obtain ⟨pu,cu,rfl⟩:=hfx.len
 repeat' (first|(with_reducible apply a5 a4);rfl;rfl;rfl|(with_reducible apply a6);rfl;(first|apply Ld.sc a4;rfl;exact hS.blkC 0 rfl rfl|apply Ld.sl a4;rfl;exact hS.blkC 1 rfl rfl|apply Ld.st a4;rfl;(first|exact hS.blkR 0 rfl|exact hS.roR (by assumption) (by assumption));rfl);rfl|(with_reducible apply s9 a4);rfl;rfl;rfl;rfl;omega;rfl|(with_reducible apply o9);rfl;rfl;omega;omega;rfl|(with_reducible apply s6 a4);rfl;rfl;exact (rfl:_=some [_,_]);rfl|refine yDn (by with_reducible constructor) ?_|(with_reducible apply b8 hS a4);rfl;rfl;rfl;clear hS;intro g w' hS|(with_reducible apply a07 hS a4);(iterate 7 rfl);clear hS;intro g w' hS|(with_reducible apply b7 hS a4 (i:=0));(iterate 8 rfl);exact (rfl:_=[_,_,_]);clear hS;intro w' hS;simp only [List.set] at hS|(with_reducible apply b7 hS a4 (i:=2));(iterate 8 rfl);exact (rfl:_=[_,_,_]);clear hS;intro w' hS;simp only [List.set] at hS|(with_reducible apply b6);rfl;all_goals (intro hb hp;try (exfalso;omega))|(with_reducible apply b4 hS);rfl;rfl;rfl;refine ⟨_,hfi _ (hfx.now hS),?_⟩;clear hS;intro w' hS|(with_reducible apply a8J hS a4 (i:=3));(iterate 4 rfl);exact hS.rowRo 0 rfl;rfl;(simp only [xh7,xd7,xa2,xd6];omega);rfl;intro p' cap' w' hS';simp only [List.set] at hS';clear hS;have hS:=hS';clear hS')
 replace hS:=hS.drop.drop;refine m8 (p',cap',N++[pgS S]) ?_ ?_ ?_ ?_
 ·dsimp only;rw [xd6,xi3];exact Fr.sub_of rfl
 ·dsimp only;refine ⟨by rw [xd6,xi3];omega,?_⟩;rw [xd6,xi3,a0F hxs,<- hNs]
 ·dsimp only;rw [xd6,xi3,xh5]
  (try simp only [xh7] at hS)
  exact hS
 ·dsimp only;rw [xd6,xi3];omega
theorem a6b {w:World} {A:List Ar} {Lp:List (Sh×Value)} {va vs:Value} {en:Int} (hA:Sl nF w 4 va (A.map arC)) (hL:ShsV w Lp vs) (h0:l7 A (shs Lp) en=0) {slots:Int}:Fn Tryz.prog 36 [lkA va vs en,.int .i64 slots] w (fun v w'=>∃ f:FlV,v=.agg (flC f).toArray/\f.F=b1s A (shs Lp) en slots/\St nF w w' (fA f)):=by
 have bL:=hL.sl.bound;obtain ⟨pa,ca,rfl⟩:=hA.len;obtain ⟨ph,ch,rfl⟩:=hL.sl.len;unfold lkA;obtain ⟨hc,hb1,hb2,hb3⟩:=b08 h0;obtain ⟨hlen,hrt⟩:=b0Z h0;rw [a0f] at hlen hb2;refine yEn Tryz.func36 Tryz.ntmps36 (by kernel_rfl) (by kernel_rfl) rfl rfl ?_;have hS:=St.start w
 (repeat ((refine yDn (by with_reducible constructor) ?_)))
 (((with_reducible apply d8 hS);rfl;rfl;rfl);clear hS;intro g2 w' hS)
 (repeat (fail))
 (((with_reducible apply b8 hS a4);rfl;rfl;rfl);clear hS;intro g4 w' hS)
 repeat' (first|(with_reducible apply a5 a4);rfl;rfl;rfl|(with_reducible apply a6);rfl;(apply Ld.sl a4;rfl;exact hS.blkC 2 rfl rfl);rfl|(with_reducible apply s6 a4);rfl;rfl;exact (rfl:_=some [_,_,_]);rfl|refine yDn (by with_reducible constructor) ?_|(with_reducible apply b8 hS a4);rfl;rfl;rfl;clear hS;intro g w' hS|(with_reducible apply a07 hS a4);(iterate 7 rfl);clear hS;intro g w' hS|(with_reducible apply b7 hS a4 (i:=0));(iterate 8 rfl);exact (rfl:_=[_,_,_]);clear hS;intro w' hS;simp only [List.set] at hS|(((with_reducible apply a29 hS a4 0);(iterate 4 rfl);exact hA.now hS;(simp only [xh7,xd7,xa2,xd6];omega);rfl;clear hS;intro qa da w' hS;simp only [List.set] at hS);simp only [xa2,xh7,xe0,List.nil_append] at hS |-))
 replace hS:=(hS.addNil 145 2).reorder [1,0,2,3,4] (by decide) rfl;have hsl:=hL.sl;refine o6 (F:=nF) (w0:=w) (X:=Option Addr×Nat×List Fp) (fun x=>[(6,.int .i64 (x.2.2.length:Nat))]) [1,2,4,5] rfl (fun x=>[.blk g [.bool true,.slice qa A.length da,.slice x.1 x.2.2.length x.2.1],.row 145 2 (.slice x.1 x.2.2.length x.2.1) (x.2.2.map fpC)]) (fun x=>x.2.2.length<=Lp.length/\x.2.2=((shs Lp).map pgS).take x.2.2.length) (fun x=>Lp.length - x.2.2.length) (none,0,[]) (by exact Fr.sub_of rfl) ⟨xf0 _,rfl⟩ hS ?_;clear hS;rintro ⟨qp,dp,N⟩ w1 ⟨hN,hNs⟩ hS;dsimp only [List.cons_append,List.nil_append] at hN hNs hS |-;by_cases hlt:N.length < Lp.length;rotate_left
 ·have hNe:N=(shs Lp).map pgS:=by rw [hNs,xa0 (by rw [xh7,a0f];omega)]
  clear hNs;obtain rfl:=hNe
  repeat' (first|(with_reducible apply a5 a4);rfl;rfl;rfl|(with_reducible apply a6);rfl;(apply Ld.sl a4;rfl;exact hS.blkC 4 rfl rfl);rfl|refine yDn (by with_reducible constructor) ?_|(with_reducible apply b6);rfl;all_goals (intro hb hp;try (exfalso;omega)))
  refine a5T (fun w'=>St nF w w' [.blk g [.bool true,.slice qa A.length da,.slice qp ((shs Lp).map pgS).length dp],.blk g2 [.slice pa A.length ca,.slice ph Lp.length ch,.int .i64 en]]) 7 rfl hS (by kernel_rfl) ?_;intro w1 hS';clear hS;have hS:=hS';clear hS'
  ((with_reducible apply i3 (nn 0) a4);rfl;kernel_rfl;exact (fun _ _ _ h=>h);exact (hS.sub (by repeat (first|exact xh8 _|apply List.Sublist.cons_cons|apply xi2)));rfl;rfl)
  ((with_reducible apply n9 (nn 1));rfl;kernel_rfl;exact (fun _ _ _ h=>h);exact (hS.sub (by repeat (first|exact xh8 _|apply List.Sublist.cons_cons|apply xi2)));rfl;(intro wd hd;replace hd:St _ _ wd _:=hd;(apply Ld.st a4;rfl;exact hd.blkR 0 rfl;rfl));rfl)
  ((with_reducible apply n9 (nn 3));rfl;kernel_rfl;exact (fun _ _ _ h=>h);exact (hS.sub (by repeat (first|exact xh8 _|apply List.Sublist.cons_cons|apply xi2)));rfl;(intro wd hd;replace hd:St _ _ wd _:=hd;(apply Ld.st a4;rfl;exact hd.blkR 1 rfl;rfl));rfl)
  refine a4G (i:=2) (j:=4) (by kernel_rfl) ?_ ?_
  ·refine o7 rfl (a0j hS a4 rfl rfl rfl rfl rfl rfl) rfl ?_;rintro _ w' ⟨gB,rfl,hS'⟩;clear hS;have hS:=hS';clear hS';refine ⟨(hS.sub (by repeat (first|exact xh8 _|apply List.Sublist.cons_cons|apply xi2))),?_⟩;refine s7 (i:=4) (by kernel_rfl) ?_;refine o7 rfl (a0n (first:=[]) (caps:=[]) rfl rfl (a3Y _ _ en _)) rfl ?_;rintro _ w' ⟨gP,rfl,hS'⟩;replace hS:=hS.transA hS';simp only [a1N] at hS;clear hS';refine ⟨(hS.sub (by repeat (first|exact xh8 _|apply List.Sublist.cons_cons|apply xi2))),?_⟩
   ((with_reducible apply a2D (nn 5) a4);rfl;kernel_rfl;kernel_rfl;kernel_rfl;exact (fun _ _ _ _ h=>h);exact (hS.sub (by repeat (first|exact xh8 _|apply List.Sublist.cons_cons|apply xi2)));rfl;rfl;exact (rfl:_=some [_,_,_,_]);rfl)
   refine s7 (i:=6) (by kernel_rfl) ?_;refine t4 (Φ:=fun _ w'=>St _ _ w' _) rfl (p9 hS a4 (i:=5) rfl rfl rfl rfl rfl (xe8 rfl) (xb8.1 rfl)) ?_;intro _ w' hS';simp only [List.set] at hS';clear hS;have hS:=hS';clear hS';refine ⟨(hS.sub (by repeat (first|exact xh8 _|apply List.Sublist.cons_cons|apply xi2))),?_⟩
   skip
   refine a0u (by kernel_rfl) ?_
   repeat' ((refine yDn (by with_reducible constructor) ?_))
   (apply a5x;repeat (first|exact ResL.nil|apply ResL.cell;rfl;(apply Ld.st a4;rfl;exact hS.blkR 5 rfl;rfl)))
   exact ⟨⟨slots,[(⟨true,A,(shs Lp).map pgS⟩,_,_)],[pr1 en],[],.slice (some ⟨gB,0,none⟩) 1 1,.slice (some ⟨gP,0,none⟩) 1 1,.slice none 0 0⟩,rfl,rfl,a6B ((hS.addNil 120 2).reorder [2,1,0,5,4] (by decide) rfl)⟩
  ·refine o7 rfl (a0n (first:=[]) (caps:=[]) rfl rfl (a3Y _ _ en _)) rfl ?_;rintro _ w' ⟨gP,rfl,hS'⟩;replace hS:=hS.transA hS';simp only [a1N] at hS;clear hS';refine ⟨(hS.sub (by repeat (first|exact xh8 _|apply List.Sublist.cons_cons|apply xi2))),?_⟩;refine s7 (i:=2) (by kernel_rfl) ?_;refine o7 rfl (a0j hS a4 rfl rfl rfl rfl rfl rfl) rfl ?_;rintro _ w' ⟨gB,rfl,hS'⟩;clear hS;have hS:=hS';clear hS';refine ⟨(hS.sub (by repeat (first|exact xh8 _|apply List.Sublist.cons_cons|apply xi2))),?_⟩
   ((with_reducible apply a2D (nn 5) a4);rfl;kernel_rfl;kernel_rfl;kernel_rfl;exact (fun _ _ _ _ h=>h);exact (hS.sub (by repeat (first|exact xh8 _|apply List.Sublist.cons_cons|apply xi2)));rfl;rfl;exact (rfl:_=some [_,_,_,_]);rfl)
   refine s7 (i:=6) (by kernel_rfl) ?_;refine t4 (Φ:=fun _ w'=>St _ _ w' _) rfl (p9 hS a4 (i:=5) rfl rfl rfl rfl rfl (xe8 rfl) (xb8.1 rfl)) ?_;intro _ w' hS';simp only [List.set] at hS';clear hS;have hS:=hS';clear hS';refine ⟨(hS.sub (by repeat (first|exact xh8 _|apply List.Sublist.cons_cons|apply xi2))),?_⟩
   skip
   refine a0u (by kernel_rfl) ?_
   repeat' ((refine yDn (by with_reducible constructor) ?_))
   (apply a5x;repeat (first|exact ResL.nil|apply ResL.cell;rfl;(apply Ld.st a4;rfl;exact hS.blkR 5 rfl;rfl)))
   exact ⟨⟨slots,[(⟨true,A,(shs Lp).map pgS⟩,_,_)],[pr1 en],[],.slice (some ⟨gB,0,none⟩) 1 1,.slice (some ⟨gP,0,none⟩) 1 1,.slice none 0 0⟩,rfl,rfl,a6B ((hS.addNil 120 2).reorder [1,2,0,5,4] (by decide) rfl)⟩
 obtain ⟨x,hx⟩:=l9 (l:=Lp) (i:=N.length) (by omega);have hrow:=i7 (f:=fun p:Sh×Value=>shC p.1 p.2) hx;obtain ⟨b,off,rfl,hro⟩:=hsl.at_ (i:=N.length) hlt;have hfx:=hL.fx x (xc1 hx);have hxs:((shs Lp).map pgS)[N.length]?=some (pgS x.1):=i7 (a1I hx);have hR:=hrt x.1 (xc1 (a1I hx));have hfi:=fun w1 (h:ShV w1 x.1 x.2)=>a7i h hR;obtain ⟨S,u⟩:=x;dsimp only [shC] at hrow hfx hfi hxs;unfold shA shC at hfi;obtain ⟨pu,cu,rfl⟩:=hfx.len
 repeat' (first|(with_reducible apply a5 a4);rfl;rfl;rfl|(with_reducible apply a6);rfl;(apply Ld.sl a4;rfl;exact hS.blkC 4 rfl rfl);rfl|refine yDn (by with_reducible constructor) ?_|(with_reducible apply b6);rfl;all_goals (intro hb hp;try (exfalso;omega)))
 refine b0p 3 18 19 rfl (hS.reorder [0,3,4,1,2] (by decide) rfl) (by kernel_rfl) ?_;intro w1 hS';clear hS;have hS:=hS';clear hS';simp only [xi4,xi5];have hH:=hS.sub (xi6 [_,_,_] _)
 ((with_reducible apply a0L (nn 0) a4);rfl;kernel_rfl;exact (fun _ _ _ h=>h);exact xc4 hH;rfl;rfl)
 ((with_reducible apply a1e (nn 1));rfl;kernel_rfl;kernel_rfl;rfl;exact (fun _ _ _ h=>h);exact hH;rfl;(intro w2 hw2;(replace hw2:St _ _ w2 _:=hw2;(apply Ld.sl a4;rfl;exact hw2.blkC 0 rfl rfl)));rfl)
 ((with_reducible apply a0L (nn 2) a4);rfl;kernel_rfl;exact (fun _ _ _ h=>h);exact xc4 hH;rfl;rfl)
 ((with_reducible apply a1e (nn 3));rfl;kernel_rfl;kernel_rfl;rfl;exact (fun _ _ _ h=>h);exact hH;rfl;(intro w2 hw2;(replace hw2:St _ _ w2 _:=hw2;(apply Ld.sl a4;rfl;exact hw2.blkC 2 rfl rfl)));rfl)
 ((with_reducible apply a0L (nn 4) a4);rfl;kernel_rfl;exact (fun _ _ _ h=>h);exact xc4 hH;rfl;rfl)
 ((with_reducible apply a58 (nn 5));rfl;kernel_rfl;kernel_rfl;kernel_rfl;rfl;exact (fun _ _ _ h=>h);exact xc4 hH;(intro a ha;exact (a64 a4 rfl rfl rfl rfl hlt) a ha _);rfl)
 ((with_reducible apply a0L (nn 6) a4);rfl;kernel_rfl;exact (fun _ _ _ h=>h);exact xc4 hH;rfl;rfl)
 ((with_reducible apply a1e (nn 7));rfl;kernel_rfl;kernel_rfl;rfl;exact (fun _ _ _ h=>h);exact hH;rfl;(intro w2 hw2;(replace hw2:St _ _ w2 _:=hw2;(apply Ld.sc a4;rfl;exact hw2.roC0 (by assumption) (by assumption) rfl)));rfl)
 ((with_reducible apply a0L (nn 8) a4);rfl;kernel_rfl;exact (fun _ _ _ h=>h);exact xc4 hH;rfl;rfl)
 ((with_reducible apply a1e (nn 9));rfl;kernel_rfl;kernel_rfl;rfl;exact (fun _ _ _ h=>h);exact hH;rfl;(intro w2 hw2;(replace hw2:St _ _ w2 _:=hw2;(apply Ld.sl a4;rfl;exact hw2.blkC 2 rfl rfl)));rfl)
 ((with_reducible apply a0L (nn 10) a4);rfl;kernel_rfl;exact (fun _ _ _ h=>h);exact xc4 hH;rfl;rfl)
 ((with_reducible apply a58 (nn 11));rfl;kernel_rfl;kernel_rfl;kernel_rfl;rfl;exact (fun _ _ _ h=>h);exact xc4 hH;(intro a ha;exact (a64 a4 rfl rfl rfl rfl hlt) a ha _);rfl)
 ((with_reducible apply a1e (nn 12));rfl;kernel_rfl;kernel_rfl;rfl;exact (fun _ _ _ h=>h);exact hH;rfl;(intro w2 hw2;(replace hw2:St _ _ w2 _:=hw2;(apply Ld.st a4;rfl;exact hw2.roR (by assumption) (by assumption);rfl)));rfl)
 refine a6W (i:=13) (by kernel_rfl) ?_;refine a5X rfl (a0n (first:=[]) (caps:=[]) rfl rfl (hfi _ (hfx.now hS))) rfl ?_;rintro _ w' ⟨rfl,hS'⟩;replace hS:=hS.transA hS';simp only [a1N] at hS;clear hS';have hH:=hS.sub (xi6 [_,_,_] _);refine ⟨xc4 (xc4 hH),?_⟩
 ((with_reducible apply b0J (nn 14) a4);rfl;kernel_rfl;kernel_rfl;kernel_rfl;rfl;exact (fun _ _ _ _ h=>h);exact xc4 hH;rfl;rfl;exact (rfl:_=some [_,_]);rfl)
 refine a6W (i:=15) (by kernel_rfl) ?_;refine a5X rfl (a0j hS a4 rfl rfl rfl rfl rfl rfl) rfl ?_;rintro _ w' ⟨g9,rfl,hS'⟩;clear hS;have hS:=hS';clear hS';have hH:=hS.drop.sub (xi6 [_,_,_] _);refine ⟨xc4 (xc4 hH),?_⟩;refine a6W (i:=16) (by kernel_rfl) ?_;refine a5X rfl (a1c hS a4 (i:=4) rfl rfl rfl rfl (hS.rowRo 0 rfl) rfl (by simp only [xh7];omega)) rfl ?_;rintro _ w' ⟨p',cap',rfl,hS'⟩;simp only [List.set,xh7] at hS' |-;clear hS;have hS:=hS';clear hS';have hH:=hS.drop.sub (xi6 [_,_,_] _);refine ⟨xc4 (xc4 hH),?_⟩
 ((with_reducible apply a0L (nn 17) a4);rfl;kernel_rfl;exact (fun _ _ _ h=>h);exact xc4 hH;rfl;rfl)
 refine a6W (i:=18) (by kernel_rfl) ?_;refine b0G (Φ:=fun _ w'=>St _ _ w' _) rfl (p9 hS a4 (i:=1) rfl rfl rfl rfl rfl (xe8 rfl) (by intro u hu;simp [Value.cells] at hu;subst hu;rfl)) ?_;intro _ w' hS';simp only [List.set,n8] at hS';clear hS;have hS:=hS';clear hS';refine ⟨xc7 rfl,?_⟩;refine b1j (by kernel_rfl) ?_;replace hS:=hS.reorder [1,4,5,2,3] (by decide) rfl
 repeat' (first|(with_reducible apply a5 a4);rfl;rfl;rfl|(with_reducible apply o9);rfl;rfl;omega;omega;rfl|refine yDn (by with_reducible constructor) ?_)
 refine m8 (p',cap',N++[pgS S]) ?_ ?_ ?_ ?_
 ·dsimp only;rw [xd6,xi3];exact Fr.sub_of rfl
 ·dsimp only;refine ⟨by rw [xd6,xi3];omega,?_⟩;rw [xd6,xi3,a0F hxs,<- hNs]
 ·dsimp only;rw [xd6,xi3,xh5]
  (try simp only [xh7] at hS)
  exact hS
 ·dsimp only;rw [xd6,xi3];omega
theorem a3l {w:World} {A:List Ar} {Lp:List (Sh×Value)} {va vs:Value} {en:Int} (hA:Sl nF w 4 va (A.map arC)) (hL:ShsV w Lp vs) (hen:-9223372036854775808<=en) (hen2:en<=9223372036854775807) (slots:Int) {k:FlV} (hK:FlOk w k):Fn Tryz.prog 9 [lkA va vs en,.int .i64 slots,.agg (flC k).toArray] w (RBf (.bool true) w):=by
 have hnew:=fun w1 Γ1 (h:St nF w w1 Γ1)=>a5Z (hA.now h) (hL.now h) hen hen2 (slots:=slots);have hne:=fun w1 Γ1 (h:St nF w w1 Γ1)=>a4x (hA.now h) (hL.now h) hen hen2 slots;have hnk:=fun w1 Γ1 (h:St nF w w1 Γ1) (h0:l7 A (shs Lp) en=0)=>a6b (hA.now h) (hL.now h) h0 (slots:=slots);have hck:=fun w1 (h:FlOk w1 k)=>a4t h;have hcr:=fun w1 (h:FlOk w1 k)=>a4a h;generalize p8 k=c at hck hcr;have hbg:=a3r;obtain ⟨pa,ca,rfl⟩:=hA.len;obtain ⟨ph,ch,rfl⟩:=hL.sl.len;unfold lkA at hnew hne hnk |-;have hz:a1L A (shs Lp) en slots=0->l7 A (shs Lp) en=0:=fun h0=>by
  unfold a1L at h0;by_cases h1:l7 A (shs Lp) en=0
  ·exact h1
  ·rw [xd9 h1] at h0;exact absurd h0 h1
 generalize a1L A (shs Lp) en slots=e at hnew hne hz;have hd2:decide (c=c)=true:=xh0 rfl;have hd3:decide (e=e)=true:=xh0 rfl;obtain ⟨fs,fsp,fpr,fo,vsp,vpr,vo⟩:=k;have hK0:=hK;obtain ⟨k1,-,-,k4,k5⟩:=hK;dsimp only at k1 k4 k5;obtain ⟨p1,c1,rfl⟩:=k1.len;obtain ⟨p2,c2,rfl⟩:=k4.len;obtain ⟨p3,c3,rfl⟩:=k5.len;clear k1 k4 k5;unfold flC at hck hcr |-;dsimp only at hck hcr |-;refine yEn Tryz.func9 Tryz.ntmps9 (by kernel_rfl) (by kernel_rfl) rfl rfl ?_;have hS:=St.start w
 (repeat ((refine yDn (by with_reducible constructor) ?_)))
 (((with_reducible apply d8 hS);rfl;rfl;rfl);clear hS;intro g4 w' hS)
 (((with_reducible apply d8 hS);rfl;rfl;rfl);clear hS;intro g7 w' hS)
 repeat' (first|(with_reducible apply a5 a4);rfl;rfl;rfl|(with_reducible apply a6);rfl;(apply Ld.st a4;rfl;exact hS.blkR 1 rfl;rfl);rfl|refine yDn (by with_reducible constructor) ?_|(with_reducible apply a4h);rfl;rfl;rfl;refine ⟨_,hnew _ _ hS,?_⟩;rintro _ w2 ⟨f1,rfl,hf1,h1⟩)
 obtain ⟨f1s,f1sp,f1pr,f1o,f1a,f1b,f1c⟩:=f1;have hF:=h1;unfold fA at hF;dsimp only at hF;obtain ⟨f1x1,f1y1,rfl⟩:=hF.rowSlice 0 rfl;obtain ⟨f1x2,f1y2,rfl⟩:=hF.rowSlice 1 rfl;obtain ⟨f1x3,f1y3,rfl⟩:=hF.rowSlice 2 rfl;clear hF;obtain ⟨Δf1,hDf1,hV1⟩:=a6v h1;replace hS:=(hS.trans hDf1).perm List.perm_append_comm;simp only [List.cons_append,List.nil_append,xe7] at hS;clear hDf1 h1;by_cases h0:e=0
 ·have hd:decide (e=0)=true:=xh0 h0;rw [xd8 h0] at hf1;have hnk:=fun w1 Γ1 h=>hnk w1 Γ1 h (hz h0)
  repeat' (first|(with_reducible apply a5 a4);rfl;rfl;rfl|(with_reducible apply a6);rfl;(apply Ld.st a4;rfl;(first|exact hS.blkR 2 rfl|exact hS.blkR 3 rfl);rfl);rfl|refine yDn (by with_reducible constructor) ?_|(with_reducible apply b8 hS a4);rfl;rfl;rfl;clear hS;intro g w' hS|(with_reducible apply b7 hS a4 (i:=0));(iterate 8 rfl);exact (rfl:_=[_,_,_,_]);clear hS;intro w' hS;simp only [List.set] at hS|(with_reducible apply b4 hS);rfl;rfl;rfl;refine ⟨_,hne _ _ hS,?_⟩;clear hS;intro w' hS|first|(with_reducible apply a9);rfl;assumption|(with_reducible apply a4h);rfl;rfl;rfl;refine ⟨_,hnk _ _ hS,?_⟩;rintro _ w2 ⟨f2,rfl,hf2,h2⟩)
  obtain ⟨f2s,f2sp,f2pr,f2o,f2a,f2b,f2c⟩:=f2;have hF:=h2;unfold fA at hF;dsimp only at hF;obtain ⟨f2x1,f2y1,rfl⟩:=hF.rowSlice 0 rfl;obtain ⟨f2x2,f2y2,rfl⟩:=hF.rowSlice 1 rfl;obtain ⟨f2x3,f2y3,rfl⟩:=hF.rowSlice 2 rfl;clear hF;obtain ⟨Δf2,hDf2,hV2⟩:=a6v h2;replace hS:=(hS.trans hDf2).perm List.perm_append_comm;simp only [List.cons_append,List.nil_append,xe7] at hS;clear hDf2 h2;have hsm:=fun w1 h1 h2=>a1T (w:=w1) h1 h2 (hf1.trans hf2.symm);unfold flC at hsm |-;dsimp only at hsm |-
  repeat' (first|refine yDn (by with_reducible constructor) ?_|(with_reducible apply b7 hS a4 (i:=0));(iterate 8 rfl);exact (rfl:_=[_,_,_,_]);clear hS;intro w' hS;simp only [List.set] at hS)
  (focus ((with_reducible apply a8 _ _ _ (by kernel_rfl) (by kernel_rfl) hS);(repeat' (first|(first|(with_reducible apply i4 a4);rfl;rfl|(with_reducible apply i6);rfl;(intro wd hd;replace hd:St _ _ wd _:=hd;(apply Ld.st a4;rfl;(first|exact hd.blkR 0 rfl|exact hd.blkR 1 rfl|exact hd.blkR 2 rfl);rfl));rfl|(first|((with_reducible apply p7);(iterate 4 rfl);first|rfl|assumption)|(with_reducible apply l8);rfl;(first|rfl|assumption);rfl;rfl))|(with_reducible apply b9);rfl;rfl;rfl;refine ⟨_,fun wd hd=>hbg _,?_⟩|(with_reducible apply b9);rfl;rfl;rfl;refine ⟨_,fun wd hd=>hsm _ (hV1 hd (fun _ h=>by simp only [xb4,xd2,h,or_true,true_or])) (hV2 hd (fun _ h=>by simp only [xb4,xd2,h,or_true,true_or])),?_⟩|(with_reducible apply b9);rfl;rfl;rfl;refine ⟨_,fun wd hd=>hck _ (hK0.now hd),?_⟩|(with_reducible apply b9);rfl;rfl;rfl;refine ⟨_,fun wd hd=>hcr _ (hK0.now hd),?_⟩));all_goals ((with_reducible apply l3);intro w' hS';clear hS;have hS:=hS';clear hS')))
  repeat' ((refine yDn (by with_reducible constructor) ?_))
  (refine d4 rfl ?_)
  exact ⟨by rw [hd2],hS.sub (xg7 _)⟩
 ·have hd:decide (e=0)=false:=xg8 h0;rw [xd9 h0] at hf1;have hsm:=fun w1 h1=>a1T (w:=w1) h1 (b1L w1) hf1;unfold flC fl0 at hsm;dsimp only at hsm
  repeat' (first|(with_reducible apply a5 a4);rfl;rfl;rfl|(with_reducible apply a6);rfl;(apply Ld.st a4;rfl;exact hS.blkR 2 rfl;rfl);rfl|refine yDn (by with_reducible constructor) ?_|(with_reducible apply b8 hS a4);rfl;rfl;rfl;clear hS;intro g w' hS|(with_reducible apply b7 hS a4 (i:=0));(iterate 8 rfl);exact (rfl:_=[_,_,_,_]);clear hS;intro w' hS;simp only [List.set] at hS|(with_reducible apply b4 hS);rfl;rfl;rfl;refine ⟨_,hne _ _ hS,?_⟩;clear hS;intro w' hS|(with_reducible apply f8);rfl;assumption)
  (focus ((with_reducible apply a8 _ _ _ (by kernel_rfl) (by kernel_rfl) hS);(repeat' (first|(first|(with_reducible apply i4 a4);rfl;rfl|(with_reducible apply i6);rfl;(intro wd hd;replace hd:St _ _ wd _:=hd;(apply Ld.st a4;rfl;(first|exact hd.blkR 0 rfl|exact hd.blkR 1 rfl|exact hd.blkR 2 rfl);rfl));rfl|(first|((with_reducible apply p7);(iterate 4 rfl);first|rfl|assumption)|(with_reducible apply l8);rfl;(first|rfl|assumption);rfl;rfl))|(with_reducible apply b9);rfl;rfl;rfl;refine ⟨_,fun wd hd=>hbg _,?_⟩|(with_reducible apply b9);rfl;rfl;rfl;refine ⟨_,fun wd hd=>hsm _ (hV1 hd (fun _ h=>by simp only [xb4,xd2,h,or_true,true_or])),?_⟩|(with_reducible apply b9);rfl;rfl;rfl;refine ⟨_,fun wd hd=>hck _ (hK0.now hd),?_⟩|(with_reducible apply b9);rfl;rfl;rfl;refine ⟨_,fun wd hd=>hcr _ (hK0.now hd),?_⟩));all_goals ((with_reducible apply l3);intro w' hS';clear hS;have hS:=hS';clear hS')))
  repeat' ((refine yDn (by with_reducible constructor) ?_))
  (refine d4 rfl ?_)
  exact ⟨by rw [hd2],hS.sub (xg7 _)⟩
end Go.Proofs.YtejnpppejalhfacGreat
namespace Go.Proofs.YtejnpppejalhfacGreat
set_option maxRecDepth 100000
set_option maxHeartbeats 8000000
open Go.ChangeShapes Go.WideShapes Go.ChangeAt Go.RowKit Go.Deep
def a6T {α:Type} (R:α->List Value->Prop) (xs:List α) (rows:List (List Value)):Prop:=rows.length=xs.length/\∀ (i:Nat) (x:α) (r:List Value),xs[i]?=some x->rows[i]?=some r->R x r
section
variable {H:Type} {enc:TypeId×Value->H} {P:Program} {w:World} {base:Nat} {spare:Nat->Bool} {held:Bool}
theorem b0k {α:Type} [Inhabited α] {t e:TypeId} {fuel sz:Nat} {cs:List Value} {y:DataW H×List MemPlace} (ht:P.underlying t=some (.slice e)) (hsz:P.cellsOf e=sz) (hpos:0 < sz) (R:α->List Value->Prop) (hR1:∀ x r,R x r->r.all (·.oneCell')=true)
  (hR:∀ (n:Nat) (cs':List Value) (z:DataW H×List MemPlace),cs'.length=sz->DataW.trod enc P w base spare held n e cs'=some z->∃ x:α,R x cs') (h:DataW.trod enc P w base spare held fuel t cs=some y) :
  ∃ v xs rows,cs=[v]/\Sl nF w sz v rows/\a6T R xs rows/\v.oneCell'=true:=by
 rcases open_slice ht h with ⟨rfl,_⟩|⟨a,len,cap,m,n,D,Pl,rfl,hb,hl,hm,hmm,_,hx⟩
 ·exact ⟨_,[],[],rfl,xc7 ⟨_,_,rfl,rfl⟩,⟨rfl,fun i x r h=>by simp at h⟩,rfl⟩
 ·have hlm:len<=m:=by rw [hmm];split <;> omega
  rw [hsz] at hx;have key:∀ i,∃ r x,i < len->w.cells? base (a.add (i * sz)) sz=some r/\R x r/\r.length=sz:=fun i=>by
   by_cases hi:i < len
   ·obtain ⟨cs',h1,h2⟩:=hx i (by omega);have hl:=(World.cells?_some h1).2.1;obtain ⟨x,hr⟩:=hR n cs' _ hl h2;exact ⟨cs',x,fun _=>⟨h1,hr,hl⟩⟩
   ·exact ⟨[],default,fun h=>(hi h).elim⟩
  obtain ⟨r,hr⟩:=Classical.axiomOfChoice key;obtain ⟨x,hr⟩:=Classical.axiomOfChoice hr;refine ⟨_,(List.range len).map x,(List.range len).map r,rfl,?_,⟨by simp,fun i y r' h1 h2=>?_⟩,rfl⟩
  ·by_cases h0:len=0
   ·subst h0;exact xc7 ⟨_,_,rfl,rfl⟩
   ·obtain ⟨b,off,spot⟩:=a;have hcell:∀ i,i < len->∀ j,j < sz->w.cell? (((⟨b,off,spot⟩:Addr).add (i * sz)).add j)=(r i)[j]?:=fun i hi j hj=>(World.cells?_some (hr i hi).1).2.2 j hj;have h00:=hcell 0 (by omega) 0 hpos;obtain ⟨u0,hu0⟩:∃ u,(r 0)[0]?=some u:=⟨(r 0)[0]'(by rw [(hr 0 (by omega)).2.2];exact hpos),by simp⟩;rw [hu0] at h00;simp only [Nat.zero_mul,Addr.add,if_true] at h00;have hspot:spot=none:=by
     cases spot with
     |none=>rfl
     |some s=>simp [World.cell?] at h00;split at h00 <;> simp at h00
    subst hspot;have hbl:=World.block_lt_of_cell? w _ h00;refine xc4 ⟨b,off,cap,by simp,by simpa using hl,hm,⟨hbl,id,fun r' hr'=>?_,fun r' hr'=>?_,fun k r' hk j u hj=>?_⟩⟩
    ·obtain ⟨i,hi,rfl⟩:=xh9.1 hr';exact (hr i (by simpa using hi)).2.2
    ·obtain ⟨i,hi,rfl⟩:=xh9.1 hr';exact hR1 _ _ (hr i (by simpa using hi)).2.1
    ·have hk':k < len:=by have:=j7 hk;simpa using this
     simp [hk'] at hk;subst hk;have hjl:j < sz:=by have:=j7 hj;rwa [(hr k hk').2.2] at this
     have:=hcell k hk' j hjl;rw [hj] at this
     rwa [Addr.add_mid,Addr.add_mid] at this
  ·have hi:i < len:=by have:=j7 h1;simpa using this
   simp [hi] at h1 h2;subst h1 h2;exact (hr i hi).2.1
end
end Go.Proofs.YtejnpppejalhfacGreat
namespace Go.Proofs.YtejnpppejalhfacGreat
set_option maxRecDepth 100000
set_option maxHeartbeats 8000000
open Go.ChangeShapes Go.WideShapes Go.ChangeAt Go.RowKit
section
variable {H:Type} {enc:TypeId×Value->H} {W:World} {base b0:Nat} {sp:Nat->Bool} {held:Bool}
theorem cI {n:Nat} {t:TypeId} {c:Value} {o:Option (DataW H×List MemPlace)} (ht:(Tryz.prog).underlying t=some (.int .i64)) (h:DataW.trod enc Tryz.prog W base sp held n t [c]=o) (ho:o.isSome=true):∃ k:Int,c=.int .i64 k/\(Lit.int .i64 k).wf=true:=by
 obtain ⟨x,hx⟩:=xh6.1 ho;obtain ⟨k,hk,_,hw⟩:=DataW.trod_int ht (h.trans hx);simp only [List.cons.injEq,and_true] at hk;exact ⟨k,hk,hw⟩
theorem cB {n:Nat} {t:TypeId} {c:Value} {o:Option (DataW H×List MemPlace)} (ht:(Tryz.prog).underlying t=some .bool) (h:DataW.trod enc Tryz.prog W base sp held n t [c]=o) (ho:o.isSome=true):∃ b:Bool,c=.bool b:=by
 obtain ⟨x,hx⟩:=xh6.1 ho;obtain ⟨b,hb,_⟩:=DataW.trod_bool ht (h.trans hx);simp only [List.cons.injEq,and_true] at hb;exact ⟨b,hb⟩
theorem cS {n:Nat} {t:TypeId} {c:Value} {o:Option (DataW H×List MemPlace)} (ht:(Tryz.prog).underlying t=some .string) (h:DataW.trod enc Tryz.prog W base sp held n t [c]=o) (ho:o.isSome=true):∃ l:List UInt8,c=.string ⟨l.toArray⟩/\l.length<=maxLen:=by
 obtain ⟨x,hx⟩:=xh6.1 ho;obtain ⟨s,hs,_,hl⟩:=DataW.trod_string ht (h.trans hx);simp only [List.cons.injEq,and_true] at hs;obtain ⟨⟨l⟩⟩:=s;exact ⟨l,hs,by simpa [ByteArray.size] using hl⟩
theorem gS {α:Type} {l:List α} {i:Nat} (h:i < l.length):(l[i]?).isSome=true:=by simp [h]
theorem a0E:(Tryz.prog).cellsOf 3=1:=by kernel_rfl
theorem a6G:(Tryz.prog).cellsOf 4=1:=by kernel_rfl
theorem a2a:(Tryz.prog).cellsOf 9=1:=by kernel_rfl
theorem a6u:(Tryz.prog).cellsOf 136=4:=by kernel_rfl
instance:Inhabited Ar:=⟨⟨0,0,0,false⟩⟩
theorem a3R {n:Nat} {cs:List Value} {z:DataW H×List MemPlace} (hl:cs.length=4) (h:DataW.trod enc Tryz.prog W base sp held n 136 cs=some z):∃ a:Ar,cs=arC a:=by
 match cs,hl with
 |[c0,c1,c2,c3],_=>
  obtain ⟨xs,n,_,_,_,hl,hf⟩:=DataW.trod_struct Tryz.underlying136 h;have f0:=hf 0 _ rfl;have f1:=hf 1 _ rfl;have f2:=hf 2 _ rfl;have f3:=hf 3 _ rfl;simp only [xi7,xi8,xi9,a0E,a6G,xj0,xj1,xi4,xi5] at f0 f1 f2 f3;have hl:xs.length=4:=hl;obtain ⟨k0,rfl,_⟩:=cI Tryz.underlying3 f0 (gS (by omega));obtain ⟨k1,rfl,_⟩:=cI Tryz.underlying3 f1 (gS (by omega));obtain ⟨k2,rfl,_⟩:=cI Tryz.underlying3 f2 (gS (by omega));obtain ⟨k3,rfl⟩:=cB Tryz.underlying4 f3 (gS (by omega));exact ⟨⟨k0,k1,k2,k3⟩,rfl⟩
end
section
variable {H:Type} {enc:TypeId×Value->H} {W:World} {base b0:Nat} {sp:Nat->Bool} {held:Bool}
instance:Inhabited Fx:=⟨⟨0,[]⟩⟩
instance:Inhabited Sh:=⟨⟨0,[],[]⟩⟩
theorem b1U:(Tryz.prog).cellsOf 156=2:=by kernel_rfl
theorem a7U:(Tryz.prog).cellsOf 142=3:=by kernel_rfl
theorem a8H:(Tryz.prog).cellsOf 140=1:=by kernel_rfl
theorem a4U:(Tryz.prog).cellsOf 39=1:=by kernel_rfl
theorem a7s:(Tryz.prog).cellsOf 22=1:=by kernel_rfl
theorem a7y:(Tryz.prog).cellsOf 41=3:=by kernel_rfl
theorem a5g {α:Type} {f:α->List Value} {G:α->Prop} {xs:List α} {rows:List (List Value)} (h:a6T (fun a r=>r=f a/\G a) xs rows):rows=xs.map f/\∀ x ∈ xs,G x:=by
 obtain ⟨h1,h2⟩:=h;refine ⟨?_,fun x hx=>?_⟩
 ·apply xf6;intro i;rw [xg0];by_cases hi:i < xs.length
  ·rw [xd1 hi,xd1 (by omega)];simp only [xg1,Option.some.injEq];exact (h2 i _ _ (xd1 hi) (xd1 (by omega))).1
  ·rw [xg2 (by omega),xg2 (by omega)];rfl
 ·obtain ⟨i,hi⟩:=xc9.1 hx;have hl:=j7 hi;exact (h2 i x _ hi (xd1 (by rw [h1];exact hl))).2
theorem cc1 {c v:Value} (h:[c]=[v]):c=v:=by simpa using h
theorem a9g {n:Nat} {cs:List Value} {z:DataW H×List MemPlace} (hl:cs.length=2) (h:DataW.trod enc Tryz.prog W base sp held n 156 cs=some z):∃ f:Fx,cs=fxC f:=by
 match cs,hl with
 |[c0,c1],_=>
  obtain ⟨xs,n,_,_,_,hl,hf⟩:=DataW.trod_struct Tryz.underlying156 h;have f0:=hf 0 _ rfl;have f1:=hf 1 _ rfl;simp only [xi7,xi8,xi9,a0E,a2a,xj0,xj1,xi4,xi5] at f0 f1;have hl:xs.length=2:=hl;obtain ⟨k0,rfl,_⟩:=cI Tryz.underlying3 f0 (gS (by omega));obtain ⟨l1,rfl,_⟩:=cS Tryz.underlying9 f1 (gS (by omega));exact ⟨⟨k0,l1⟩,rfl⟩
theorem z8 {α:Type} [Inhabited α] {n:Nat} {t e sz:Nat} {c:Value} {o:Option (DataW H×List MemPlace)} (ht:(Tryz.prog).underlying t=some (.slice e)) (hsz:(Tryz.prog).cellsOf e=sz) (hpos:0 < sz) (f:α->List Value) (G:α->Prop) (h1:∀ x,(f x).all (·.oneCell')=true\/¬ G x)
  (hR:∀ (n:Nat) (cs':List Value) (z:DataW H×List MemPlace),cs'.length=sz->DataW.trod enc Tryz.prog W base sp held n e cs'=some z->∃ x:α,cs'=f x/\G x) (h:DataW.trod enc Tryz.prog W base sp held n t [c]=o) (ho:o.isSome=true):∃ xs:List α,Sl nF W sz c (xs.map f)/\(∀ x ∈ xs,G x)/\c.oneCell'=true:=by
 obtain ⟨x,hx⟩:=xh6.1 ho;obtain ⟨v,xs,rows,hv,hsl,hra,hone⟩:=b0k ht hsz hpos (fun (a:α) r=>r=f a/\G a) (fun x r h=>by
  obtain ⟨rfl,hg⟩:=h;rcases h1 x with h|h
  ·exact h
  ·exact absurd hg h) (fun n cs' z hl hz=>hR n cs' z hl hz) (h.trans hx)
 obtain rfl:=cc1 hv;obtain ⟨rfl,hg⟩:=a5g hra;exact ⟨xs,hsl,hg,hone⟩
theorem a5q {n:Nat} {cs:List Value} {z:DataW H×List MemPlace} (hl:cs.length=3) (h:DataW.trod enc Tryz.prog W base sp held n 142 cs=some z):∃ x:Sh×Value,cs=shC x.1 x.2/\ShV W x.1 x.2/\x.2.oneCell'=true:=by
 match cs,hl with
 |[c0,c1,c2],_=>
  obtain ⟨xs,n,_,_,_,hl,hf⟩:=DataW.trod_struct Tryz.underlying142 h;have f0:=hf 0 _ rfl;have f1:=hf 1 _ rfl;have f2:=hf 2 _ rfl;simp only [xi7,xi8,xi9,a0E,a2a,a8H,xj0,xj1,xi4,xi5] at f0 f1 f2;have hl:xs.length=3:=hl;obtain ⟨k0,rfl,_⟩:=cI Tryz.underlying3 f0 (gS (by omega));obtain ⟨l1,rfl,_⟩:=cS Tryz.underlying9 f1 (gS (by omega));obtain ⟨fs,h2,_,h3⟩:=z8 Tryz.underlying140 b1U (by decide) fxC (fun _=>True) (fun x=>xc7 rfl) (fun _ _ _ hl hz=>by obtain ⟨f,hf⟩:=a9g hl hz;exact ⟨f,hf,trivial⟩) f2 (gS (by omega));exact ⟨(⟨k0,l1,fs⟩,c2),rfl,h2,h3⟩
theorem a4l {n:Nat} {cs:List Value} {z:DataW H×List MemPlace} (hl:cs.length=3) (h:DataW.trod enc Tryz.prog W base sp held n 41 cs=some z):∃ (A:List Ar) (Lp:List (Sh×Value)) (va vs:Value) (en:Int),.agg cs.toArray=lkA va vs en/\Sl nF W 4 va (A.map arC)/\ShsV W Lp vs/\(-9223372036854775808<=en/\en<=9223372036854775807):=by
 match cs,hl with
 |[c0,c1,c2],_=>
  obtain ⟨xs,n,_,_,_,hl,hf⟩:=DataW.trod_struct Tryz.underlying41 h;have f0:=hf 0 _ rfl;have f1:=hf 1 _ rfl;have f2:=hf 2 _ rfl;simp only [xi7,xi8,xi9,a0E,a4U,a7s,xj0,xj1,xi4,xi5] at f0 f1 f2;have hl:xs.length=3:=hl;obtain ⟨A,h1,_,_⟩:=z8 Tryz.underlying39 a6u (by decide) arC (fun _=>True) (fun x=>xc7 rfl) (fun _ _ _ hl hz=>by obtain ⟨f,hf⟩:=a3R hl hz;exact ⟨f,hf,trivial⟩) f0 (gS (by omega));obtain ⟨Lp,h3,h4,_⟩:=z8 (α:=Sh×Value) Tryz.underlying22 a7U (by decide) (fun x=>shC x.1 x.2) (fun x=>ShV W x.1 x.2/\x.2.oneCell'=true) (fun x=>by
   by_cases hx:x.2.oneCell'=true
   ·left;unfold shC;simp only [xg4,xg5,xg6,hx];rfl
   ·exact xc4 fun h=>hx h.2) (fun _ _ _ hl hz=>by obtain ⟨x,hx,h2,h3⟩:=a5q hl hz;exact ⟨x,hx,h2,h3⟩) f1 (gS (by omega))
  obtain ⟨k2,rfl,hw⟩:=cI Tryz.underlying3 f2 (gS (by omega));exact ⟨A,Lp,c0,c1,k2,rfl,h1,⟨h3,fun p hp=>(h4 p hp).1⟩,by simpa [Lit.wf,IntKind.min,IntKind.max,IntKind.signed,IntKind.bits] using hw⟩
theorem a46 {v:Value} {d:DataW H} {ps:List MemPlace} (hval:Value.okWide Tryz.prog W .any b0 41 v) (h:DataW.Trod enc Tryz.prog W base sp held 41 v d ps):∃ (A:List Ar) (Lp:List (Sh×Value)) (va vs:Value) (en:Int),v=lkA va vs en/\Sl nF W 4 va (A.map arC)/\ShsV W Lp vs/\(-9223372036854775808<=en/\en<=9223372036854775807):=by
 obtain ⟨cs,rfl,hsz⟩:=okWide_struct Tryz.underlying41 hval;obtain ⟨fuel,hf⟩:=h;have hc:(Value.agg cs).cells=cs:=rfl;rw [hc] at hf;have hlen:cs.toList.length=3:=by rw [xf5,hsz,a7y]
 obtain ⟨A,Lp,va,vs,en,h1,h2⟩:=a4l hlen hf;rw [xc3] at h1;exact ⟨A,Lp,va,vs,en,h1,h2⟩
end
end Go.Proofs.YtejnpppejalhfacGreat
