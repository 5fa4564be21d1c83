/- Texts that the proof stands on, one behind the other: LawHolds, Op1, OpA, OpK, OpR. -/
import Derived.Deep.Slices
import Derived.OpenShut
import Derived.WideShapes
import Derived.ProofKit
import Derived.Test.YtejnpppejalhfabPKernelHolds15
/- foliantlaw.KernelHolds. -/
namespace Go.Proofs.Ytejnpppejalhfab
open Go.RowKit Go.Sort
set_option maxRecDepth 100000 in
set_option maxHeartbeats 8000000 in
theorem KernelHolds_fn {w:World} {k:KV} (hK:KerV w k) {space addr other at_:Int} {s:List UInt8} (hb0:-9223372036854775808≤addr) (hb1:addr≤9223372036854775807) (ha0:-9223372036854775808≤at_) (ha1:at_≤9223372036854775807):Fn Try.prog 7 [.agg (kvC k).toArray,.int .i64 space,.int .i64 addr,.string ⟨s.toArray⟩,.int .i64 other,.int .i64 at_] w (RBf (.bool true) w):=by
 have hre:=fun w1 (h:KerV w1 k)=>Store_fn h (space:=space) (s:=s) hb0 hb1
 have hpk:=fun w1 (h:KerV w1 k) p=>Peek_fn h other p
 have hbg:=kernelBegun_fn
 have hcho:=fun w1=>choose_fn at_ 4080 w1 (by omega) (by omega) ha0 ha1
 have hK0:=hK
 obtain ⟨sh,fr,sl,sps,hand,vsh,vfr,vsl,vsp⟩:=k
 obtain ⟨k1,k2,k3,k4,k5⟩:=hK
 dsimp only at k1 k2 k3 k4 k5
 obtain ⟨p1,c1,rfl⟩:=k1.sl.len
 obtain ⟨p2,c2,rfl⟩:=k2.len
 obtain ⟨p3,c3,rfl⟩:=k3.len
 obtain ⟨p4,c4,rfl⟩:=k4.len
 generalize hKK:KV.K ⟨sh,fr,sl,sps,hand,.slice p1 sh.length c1,.slice p2 fr.length c2,.slice p3 sl.length c3,.slice p4 sps.length c4⟩=K at hre hpk
 have hpre:∀ w1 Γ1,St nF w w1 Γ1→KerV w1 ⟨sh,fr,sl,sps,hand,.slice p1 sh.length c1,.slice p2 fr.length c2,.slice p3 sl.length c3,.slice p4 sps.length c4⟩:=fun w1 Γ1 h=>hK0.now h
 unfold faultV at hre
 unfold kvC at hre hpk ⊢
 dsimp only at hre hpk ⊢
 refine fn_enter (fn:=Try.f7) ⟨Try.func7,by kernel_rfl,by kernel_rfl⟩ (by exact rfl) Try.ntmps7 (by exact rfl) ?_
 have hS:=St.start w
 repeat' (first|(first|((with_reducible apply l_pure tabOk);exact rfl;exact rfl)|((with_reducible apply l_load);exact rfl;(((with_reducible apply Loads.st tabOk);exact rfl;((exact hS.blkR 0 rfl));exact rfl));exact rfl)|((with_reducible apply l_box hS);(iterate 3 exact rfl);intro g w' hS';clear hS;have hS:=hS';clear hS'))|(first|(with_reducible first|apply c_seq|apply c_region|apply l_nil|apply q_then)))
 refine l_call rfl rfl (hre _ (hpre _ _ hS)) rfl ?_
 clear hre
 rintro v w2 ⟨k',rfl,hk',hc⟩
 by_cases hok:okR K space addr s.length 1
 rotate_left
 ·have hV:=hc.V
  replace hS:=hS.transA hc.st
  simp only [appA] at hS
  clear hc hk'
  obtain ⟨sh5,fr5,sl5,sps5,hand5,vsh5,vfr5,vsl5,vsp5⟩:=k'
  obtain ⟨hV1,hV2,hV3,hV4,hV5⟩:=hV
  dsimp only at hV1 hV2 hV3 hV4 hV5
  obtain ⟨x1,y1,rfl⟩:=hV1.sl.len
  obtain ⟨x2,y2,rfl⟩:=hV2.len
  obtain ⟨x3,y3,rfl⟩:=hV3.len
  obtain ⟨x4,y4,rfl⟩:=hV4.len
  clear hV1 hV2 hV3 hV4 hV5
  by_cases hE:reachE K space s.length 1=0
  ·have hF:(reachF K space addr s.length 1).1≠0:=fun h=>hok ⟨hE,by unfold reachF at h;rwa [if_pos hE] at h⟩
   have hd:decide ((reachF K space addr s.length 1).1=0)=false:=decide_eq_false hF
   rw [hE]
   repeat' (first|(first|((with_reducible apply l_pure tabOk);exact rfl;exact rfl)|((with_reducible apply l_load);exact rfl;(((with_reducible apply Loads.sc tabOk);exact rfl;((exact hS.blkC 0 rfl rfl))));exact rfl)|((with_reducible apply l_alloc hS tabOk);(iterate 3 exact rfl);intro g w' hS';clear hS;have hS:=hS';clear hS')|(first|((with_reducible apply l_store hS tabOk (i:=0));(iterate 8 exact rfl);((exact (rfl:_=[_,_])));intro w' hS';simp only [List.set] at hS';clear hS;have hS:=hS';clear hS')|((with_reducible apply l_store hS tabOk (i:=1));(iterate 8 exact rfl);((exact (rfl:_=[_,_,_,_,_])));intro w' hS';simp only [List.set] at hS';clear hS;have hS:=hS';clear hS'))|(first|((with_reducible apply l_yes);(iterate 4 exact rfl);(exact rfl))|((with_reducible apply l_pick2);exact rfl;((exact rfl));exact rfl;exact rfl)))|(first|(with_reducible first|apply c_seq|apply c_region|apply l_nil|apply q_then|apply c_ret|apply q_then_ret))|(((with_reducible apply c_ifn);exact rfl;all_goals (intro hb hp;try (exfalso;omega))))|((with_reducible apply l_call);exact rfl;exact rfl;exact hbg _;exact rfl;rintro _ w' ⟨rfl,hS'⟩;replace hS:=hS.transA hS';simp only [appA] at hS;clear hS'))
   (apply q_ret1);(repeat (first|exact ResL.nil|(apply ResL.tmp;exact rfl)))
   exact ⟨rfl,hS.sub (List.nil_sublist _)⟩
  ·have hd:decide (reachE K space s.length 1=0)=false:=decide_eq_false hE
   repeat' (first|(first|((with_reducible apply l_pure tabOk);exact rfl;exact rfl)|((with_reducible apply l_alloc hS tabOk);(iterate 3 exact rfl);intro g w' hS';clear hS;have hS:=hS';clear hS')|(first|((with_reducible apply l_store hS tabOk (i:=0));(iterate 8 exact rfl);((exact (rfl:_=[_,_])));intro w' hS';simp only [List.set] at hS';clear hS;have hS:=hS';clear hS')|((with_reducible apply l_store hS tabOk (i:=1));(iterate 8 exact rfl);((exact (rfl:_=[_,_,_,_,_])));intro w' hS';simp only [List.set] at hS';clear hS;have hS:=hS';clear hS'))|(first|((with_reducible apply l_no);(iterate 4 exact rfl);((assumption));exact rfl)|((with_reducible apply l_partn);(iterate 3 exact rfl);all_goals (intro hb hp;try (exfalso;omega)))|((with_reducible apply l_pick1);exact rfl;((assumption));exact rfl;exact rfl)))|(first|(with_reducible first|apply c_seq|apply c_region|apply l_nil|apply q_then|apply c_ret|apply q_then_ret))|(((with_reducible apply c_ift);exact rfl;(exact rfl)))|((with_reducible apply l_call);exact rfl;exact rfl;exact hbg _;exact rfl;rintro _ w' ⟨rfl,hS'⟩;replace hS:=hS.transA hS';simp only [appA] at hS;clear hS'))
   (apply q_ret1);(repeat (first|exact ResL.nil|(apply ResL.tmp;exact rfl)))
   exact ⟨rfl,hS.sub (List.nil_sublist _)⟩
 have H:=hold_ok hok
 obtain ⟨-,-,-,-,hs8,hA1,hA2,-,-⟩:=okR_ok hok
 have hr':Right k'.K:=by rw [hk'];exact H.rightA
 have hO:=hc.own (n:=k'.K.frames.length - 1) (by have:=hr'.cnt;omega)
 replace hS:=(hS.trans hO).perm List.perm_append_comm
 dsimp only [List.cons_append,List.nil_append] at hS
 have hV:KerV _ k':=KerV.own (Γ:=[]) (by rw [List.append_nil];exact hO)
 clear hc hO
 rw [reachF_ok hok,hok.1]
 have hld:=fun w1 (h:KerV w1 k')=>Load_fn h (space:=space) (addr:=addr) (size:=(s.length:Nat)) (way:=0) hb0 hb1
 rw [hk'] at hld
 obtain ⟨-,v2,v3,-⟩:=load_v4 H.ok
 rw [H.data,v2,v3] at hld
 unfold faultV at hld
 unfold kvC at hld
 obtain ⟨sh5,fr5,sl5,sps5,hand5,vsh5,vfr5,vsl5,vsp5⟩:=k'
 obtain ⟨hV1,hV2,hV3,hV4,hV5⟩:=hV
 dsimp only at hV1 hV2 hV3 hV4 hV5
 obtain ⟨x1,y1,rfl⟩:=hV1.sl.len
 obtain ⟨x2,y2,rfl⟩:=hV2.len
 obtain ⟨x3,y3,rfl⟩:=hV3.len
 obtain ⟨x4,y4,rfl⟩:=hV4.len
 clear hV1 hV2 hV3 hV4 hV5
 dsimp only at hld ⊢
 repeat' (first|(first|((with_reducible apply l_pure tabOk);exact rfl;exact rfl)|((with_reducible apply l_load);exact rfl;(first|((with_reducible apply Loads.sc tabOk);exact rfl;((exact hS.blkC 0 rfl rfl)))|((with_reducible apply Loads.st tabOk);exact rfl;((exact hS.blkR 1 rfl));exact rfl));exact rfl)|((with_reducible apply l_alloc hS tabOk);(iterate 3 exact rfl);intro g w' hS';clear hS;have hS:=hS';clear hS')|(first|((with_reducible apply l_store hS tabOk (i:=0));(iterate 8 exact rfl);((exact (rfl:_=[_,_])));intro w' hS';simp only [List.set] at hS';clear hS;have hS:=hS';clear hS')|((with_reducible apply l_store hS tabOk (i:=1));(iterate 8 exact rfl);((exact (rfl:_=[_,_,_,_,_])));intro w' hS';simp only [List.set] at hS';clear hS;have hS:=hS';clear hS'))|(first|((with_reducible apply l_yes);(iterate 4 exact rfl);(exact rfl))|((with_reducible apply l_pick2);exact rfl;((exact rfl));exact rfl;exact rfl)))|(first|(with_reducible first|apply c_seq|apply c_region|apply l_nil|apply q_then|apply c_skip))|(((with_reducible apply c_iff);exact rfl;(exact rfl))))
 refine l_call rfl rfl (hld _ (KerV.own (hS.perm (List.perm_append_comm (l₁:=[_,_,_]))))) rfl ?_
 clear hld
 rintro v w3 ⟨kb,rfl,hkb,hc⟩
 have hrb:Right kb.K:=by rw [hkb];exact H.rightB
 have hO:=hc.own (n:=kb.K.frames.length - 1) (by have:=hrb.cnt;omega)
 replace hS:=hS.sub (.cons_cons _ (.cons_cons _ (.cons_cons _ (List.nil_sublist _))))
 replace hS:=(hS.trans hO).perm List.perm_append_comm
 dsimp only [List.cons_append,List.nil_append] at hS
 have hV:KerV _ kb:=KerV.own (Γ:=[]) (by rw [List.append_nil];exact hO)
 clear hc hO
 have hpk2:=fun w1 (h:KerV w1 kb) p=>Peek_fn h other p
 have hck:=fun w1 (h:KerV w1 kb)=>checkKer_fn h
 rw [right_iff.2 hrb] at hck
 have hE2:∀ p,peekE kb.K other p=peekE K other p:=fun p=>by rw [hkb];exact H.err other p
 have hL2:∀ p,(peekD kb.K other p).length=(peekD K other p).length:=fun p=>by rw [hkb];exact H.len other p
 have hB2:∀ p (i:Nat),(other≠space∨p * 16 + i < addr∨addr + s.length≤p * 16 + i)→(peekD kb.K other p)[i]?=(peekD K other p)[i]?:=fun p i h=>by rw [hkb];exact H.same other p i h
 unfold kvC at hpk2 hck
 obtain ⟨sh6,fr6,sl6,sps6,hand6,vsh6,vfr6,vsl6,vsp6⟩:=kb
 obtain ⟨hV1,hV2,hV3,hV4,hV5⟩:=hV
 dsimp only at hV1 hV2 hV3 hV4 hV5
 obtain ⟨r1,z1,rfl⟩:=hV1.sl.len
 obtain ⟨r2,z2,rfl⟩:=hV2.len
 obtain ⟨r3,z3,rfl⟩:=hV3.len
 obtain ⟨r4,z4,rfl⟩:=hV4.len
 clear hV1 hV2 hV3 hV4 hV5
 dsimp only at hpk2 hck ⊢
 generalize hKB:KV.K ⟨sh6,fr6,sl6,sps6,hand6,.slice r1 sh6.length z1,.slice r2 fr6.length z2,.slice r3 sl6.length z3,.slice r4 sps6.length z4⟩=KB at hpk2 hE2 hL2 hB2
 have hds:(!decide (s=s))=false:=by simp
 repeat' (first|(first|((with_reducible apply l_pure tabOk);exact rfl;exact rfl)|((with_reducible apply l_load);exact rfl;(first|((with_reducible apply Loads.sc tabOk);exact rfl;((exact hS.blkC 0 rfl rfl)))|((with_reducible apply Loads.st tabOk);exact rfl;((exact hS.blkR 1 rfl));exact rfl));exact rfl)|((with_reducible apply l_alloc hS tabOk);(iterate 3 exact rfl);intro g w' hS';clear hS;have hS:=hS';clear hS')|(first|((with_reducible apply l_store hS tabOk (i:=0));(iterate 8 exact rfl);((exact (rfl:_=[_,_])));intro w' hS';simp only [List.set] at hS';clear hS;have hS:=hS';clear hS')|((with_reducible apply l_store hS tabOk (i:=1));(iterate 8 exact rfl);((exact (rfl:_=[_,_,_,_,_])));intro w' hS';simp only [List.set] at hS';clear hS;have hS:=hS';clear hS'))|(first|((with_reducible apply l_yes);(iterate 4 exact rfl);first|exact rfl|assumption)|((with_reducible apply l_pick2);exact rfl;(first|exact rfl|assumption);exact rfl;exact rfl)))|(first|(with_reducible first|apply c_seq|apply c_region|apply l_nil|apply q_then|apply c_skip))|(((with_reducible apply c_iff);exact rfl;(exact rfl)))|((with_reducible apply l_call);exact rfl;exact rfl;exact hck _ (KerV.own (hS.perm (List.perm_append_comm (l₁:=[_,_,_,_,_]))));exact rfl;rintro _ w' ⟨rfl,hS'⟩;replace hS:=hS.transA hS';simp only [appA] at hS;clear hS'))
 ((with_reducible apply l_call);exact rfl;exact rfl;exact hcho _;exact rfl;rintro _ _ ⟨pk,rfl,hpk3,rfl⟩)
 repeat' (first|(first|((with_reducible apply l_add);exact rfl;exact rfl;omega;omega;exact rfl)|((with_reducible apply l_pure tabOk);exact rfl;exact rfl)|((with_reducible apply l_load);exact rfl;(((with_reducible apply Loads.st tabOk);exact rfl;((exact hS.blkR 4 rfl));exact rfl));exact rfl))|(first|(with_reducible first|apply c_seq|apply c_region|apply l_nil|apply q_then))|((with_reducible apply l_quo);exact rfl;exact rfl;omega;omega;omega;exact rfl))
 obtain ⟨p,hp⟩:∃ p:Int,p=1 + ((pk:Nat):Int) / 16:=⟨_,rfl⟩
 have hpb:1≤p∧p≤256:=by omega
 rw [← hp]
 have hpk':=fun w1 h=>hpk w1 h p
 have hpk2':=fun w1 h=>hpk2 w1 h p
 rw [hE2] at hpk2'
 have hl:=hL2 p
 have hl16:=peekD_len H.right other p
 have hb2:=hB2 p
 clear hE2 hL2 hB2 hpk hpk2 hp hpk3 hcho
 generalize peekE K other p=PE at hpk' hpk2'
 generalize peekD K other p=D1 at hpk' hl hb2 hl16
 generalize peekD KB other p=D2 at hpk2' hl hb2
 have hd1:(!decide (PE=PE))=false:=by simp
 have hd2:(!decide ((D1.length:Int)=(D2.length:Int)))=false:=by simp [hl]
 repeat' (first|(first|((with_reducible apply l_pure tabOk);exact rfl;exact rfl)|((with_reducible apply l_load);exact rfl;(((with_reducible apply Loads.st tabOk);exact rfl;((exact hS.blkR 1 rfl));exact rfl));exact rfl)|(first|((with_reducible apply l_yes);(iterate 4 exact rfl);(assumption))|((with_reducible apply l_pick2);exact rfl;((assumption));exact rfl;exact rfl)))|(first|(with_reducible first|apply c_seq|apply c_region|apply l_nil|apply q_then|apply c_skip|apply c_block))|(((with_reducible apply c_iff);exact rfl;(assumption)))|((with_reducible apply l_call);exact rfl;exact rfl;exact hpk' _ (hpre _ _ hS);exact rfl;rintro _ w' ⟨rfl,hS'⟩;replace hS:=hS.transA hS';simp only [appA] at hS;clear hS')|((with_reducible apply l_call);exact rfl;exact rfl;exact hpk2' _ (KerV.own (hS.perm (List.perm_append_comm (l₁:=[_,_,_,_,_]))));exact rfl;rintro _ w' ⟨rfl,hS'⟩;replace hS:=hS.transA hS';simp only [appA] at hS;clear hS'))
 refine c_loopK (F:=nF) (w0:=w) (X:=Nat) (fun i=>[(25,.int .i64 (i:Nat))]) [1,2,3,4,20,21,23] rfl (fun _=>[]) (fun i=>i≤D1.length) (fun i=>D1.length - i) 0 (by repeat (first|exact Fr.sub_nil _|(apply Fr.sub_cons;exact rfl))) (Nat.zero_le _) hS ?_
 clear hS
 intro i w4 hi hS
 dsimp only [List.cons_append,List.nil_append] at hS ⊢
 by_cases hlt:i < D1.length
 ·have hdl:decide ((i:Int) < (D1.length:Int))=true:=decide_eq_true (by omega)
  obtain ⟨x,hx⟩:=lt_get (l:=D1) (i:=i) (by omega)
  obtain ⟨y,hy⟩:=lt_get (l:=D2) (i:=i) (by omega)
  have hn:=hb2 i
  rw [hx,hy] at hn
  by_cases h1:other=space
  rotate_left
  ·have e:=hn (Or.inl h1)
   injection e with e
   subst e
   have g1:(!decide (other=space))=true:=by simp [h1]
   have g2:(!decide (((y.toNat:Nat):Int)=((y.toNat:Nat):Int)))=false:=by simp
   repeat' (first|(first|((with_reducible apply l_add);exact rfl;exact rfl;omega;omega;exact rfl)|((with_reducible apply l_mul);exact rfl;exact rfl;omega;omega;exact rfl)|((with_reducible apply l_pure tabOk);exact rfl;exact rfl))|(first|(with_reducible first|apply c_seq|apply c_region|apply l_nil|apply q_then|apply c_skip|apply c_block))|(((with_reducible apply c_ift);exact rfl;(assumption))))
   (focus ((with_reducible apply c_drawAll _ _ _ (by kernel_rfl) (by kernel_rfl) hS);(repeat' (first|(first|((with_reducible apply d_pure tabOk);exact rfl;exact rfl)|(first|((with_reducible apply d_yes);(iterate 4 exact rfl);(exact rfl))|((with_reducible apply d_no);(iterate 4 exact rfl);(first|exact rfl|assumption);exact rfl)|((with_reducible apply d_pick1);exact rfl;(first|exact rfl|assumption);exact rfl;exact rfl)))|((with_reducible apply d_ixs tabOk);(iterate 4 exact rfl);exact hx;exact rfl)|((with_reducible apply d_ixs tabOk);(iterate 4 exact rfl);exact hy;exact rfl)));all_goals ((with_reducible apply d_nil);intro w' hS';clear hS;have hS:=hS';clear hS')))
   repeat' (first|(first|((with_reducible apply l_add);exact rfl;exact rfl;omega;omega;exact rfl)|((with_reducible apply l_pure tabOk);exact rfl;exact rfl))|(first|(with_reducible first|apply c_region|apply l_nil|apply q_then|apply c_skip|apply q_block))|(((with_reducible apply c_iff);exact rfl;(assumption))))
   exact q_loopK (i + 1) (by repeat (first|exact Fr.sub_nil _|(apply Fr.sub_cons;exact rfl))) (by omega) hS (by omega)
  have g1:(!decide (other=space))=false:=by simp [h1]
  by_cases h2:p * 16 + (i:Int) < addr
  ·have e:=hn (Or.inr (Or.inl h2))
   injection e with e
   subst e
   have g2:(!decide (((y.toNat:Nat):Int)=((y.toNat:Nat):Int)))=false:=by simp
   have g3:decide (p * 16 + (i:Int) < addr)=true:=decide_eq_true h2
   repeat' (first|(first|((with_reducible apply l_add);exact rfl;exact rfl;omega;omega;exact rfl)|((with_reducible apply l_mul);exact rfl;exact rfl;omega;omega;exact rfl)|((with_reducible apply l_pure tabOk);exact rfl;exact rfl))|(first|(with_reducible first|apply c_seq|apply c_region|apply l_nil|apply q_then|apply c_skip|apply c_block))|(((with_reducible apply c_ift);exact rfl;(assumption))))
   (focus ((with_reducible apply c_drawAll _ _ _ (by kernel_rfl) (by kernel_rfl) hS);(repeat' (first|(first|((with_reducible apply d_pure tabOk);exact rfl;exact rfl)|(first|((with_reducible apply d_yes);(iterate 4 exact rfl);first|exact rfl|assumption)|((with_reducible apply d_no);(iterate 4 exact rfl);((assumption));exact rfl)|((with_reducible apply d_pick1);exact rfl;(first|exact rfl|assumption);exact rfl;exact rfl)|((with_reducible apply d_pick2);exact rfl;((assumption));exact rfl;exact rfl)))|((with_reducible apply d_ixs tabOk);(iterate 4 exact rfl);exact hx;exact rfl)|((with_reducible apply d_ixs tabOk);(iterate 4 exact rfl);exact hy;exact rfl)));all_goals ((with_reducible apply d_nil);intro w' hS';clear hS;have hS:=hS';clear hS')))
   repeat' (first|(first|((with_reducible apply l_add);exact rfl;exact rfl;omega;omega;exact rfl)|((with_reducible apply l_pure tabOk);exact rfl;exact rfl))|(first|(with_reducible first|apply c_region|apply l_nil|apply q_then|apply c_skip|apply q_block))|(((with_reducible apply c_iff);exact rfl;(assumption))))
   exact q_loopK (i + 1) (by repeat (first|exact Fr.sub_nil _|(apply Fr.sub_cons;exact rfl))) (by omega) hS (by omega)
  have g3:decide (p * 16 + (i:Int) < addr)=false:=decide_eq_false h2
  by_cases h3:addr + (s.length:Int)≤p * 16 + (i:Int)
  ·have e:=hn (Or.inr (Or.inr h3))
   injection e with e
   subst e
   have g2:(!decide (((y.toNat:Nat):Int)=((y.toNat:Nat):Int)))=false:=by simp
   have g4:decide (addr + (s.length:Int)≤p * 16 + (i:Int))=true:=decide_eq_true h3
   repeat' (first|(first|((with_reducible apply l_add);exact rfl;exact rfl;omega;omega;exact rfl)|((with_reducible apply l_mul);exact rfl;exact rfl;omega;omega;exact rfl)|((with_reducible apply l_pure tabOk);exact rfl;exact rfl))|(first|(with_reducible first|apply c_seq|apply c_region|apply l_nil|apply q_then|apply c_skip|apply c_block))|(((with_reducible apply c_ift);exact rfl;(assumption))))
   (focus ((with_reducible apply c_drawAll _ _ _ (by kernel_rfl) (by kernel_rfl) hS);(repeat' (first|(first|((with_reducible apply d_add);exact rfl;exact rfl;omega;omega;exact rfl)|((with_reducible apply d_pure tabOk);exact rfl;exact rfl)|(first|((with_reducible apply d_yes);(iterate 4 exact rfl);(assumption))|((with_reducible apply d_pick1);exact rfl;((assumption));exact rfl;exact rfl)|((with_reducible apply d_pick2);exact rfl;((assumption));exact rfl;exact rfl)))|((with_reducible apply d_ixs tabOk);(iterate 4 exact rfl);exact hx;exact rfl)|((with_reducible apply d_ixs tabOk);(iterate 4 exact rfl);exact hy;exact rfl)));all_goals ((with_reducible apply d_nil);intro w' hS';clear hS;have hS:=hS';clear hS')))
   repeat' (first|(first|((with_reducible apply l_add);exact rfl;exact rfl;omega;omega;exact rfl)|((with_reducible apply l_pure tabOk);exact rfl;exact rfl))|(first|(with_reducible first|apply c_region|apply l_nil|apply q_then|apply c_skip|apply q_block))|(((with_reducible apply c_iff);exact rfl;(assumption))))
   exact q_loopK (i + 1) (by repeat (first|exact Fr.sub_nil _|(apply Fr.sub_cons;exact rfl))) (by omega) hS (by omega)
  ·have g4:decide (addr + (s.length:Int)≤p * 16 + (i:Int))=false:=decide_eq_false h3
   repeat' (first|(first|((with_reducible apply l_add);exact rfl;exact rfl;omega;omega;exact rfl)|((with_reducible apply l_mul);exact rfl;exact rfl;omega;omega;exact rfl)|((with_reducible apply l_pure tabOk);exact rfl;exact rfl))|(first|(with_reducible first|apply c_seq|apply c_region|apply l_nil|apply q_then|apply c_skip|apply c_block))|(((with_reducible apply c_ift);exact rfl;(assumption))))
   (focus ((with_reducible apply c_drawAll _ _ _ (by kernel_rfl) (by kernel_rfl) hS);(repeat' ((first|((with_reducible apply d_add);exact rfl;exact rfl;omega;omega;exact rfl)|((with_reducible apply d_pure tabOk);exact rfl;exact rfl)|(first|((with_reducible apply d_yes);(iterate 4 exact rfl);(assumption))|((with_reducible apply d_no);(iterate 4 exact rfl);((assumption));exact rfl)|((with_reducible apply d_pick2);exact rfl;((assumption));exact rfl;exact rfl)))));all_goals ((with_reducible apply d_nil);intro w' hS';clear hS;have hS:=hS';clear hS')))
   repeat' (first|(first|((with_reducible apply l_add);exact rfl;exact rfl;omega;omega;exact rfl)|((with_reducible apply l_pure tabOk);exact rfl;exact rfl))|(first|(with_reducible first|apply c_region|apply l_nil|apply q_then|apply c_skip|apply q_block))|(((with_reducible apply c_iff);exact rfl;(exact rfl))))
   exact q_loopK (i + 1) (by repeat (first|exact Fr.sub_nil _|(apply Fr.sub_cons;exact rfl))) (by omega) hS (by omega)
 ·have hdl:decide ((i:Int) < (D1.length:Int))=false:=decide_eq_false (by omega)
  repeat' (first|(((with_reducible apply l_pure tabOk);exact rfl;exact rfl))|(first|(with_reducible first|apply c_seq|apply c_region|apply l_nil|apply q_then|apply c_exit|apply c_ret|apply q_then_exit|apply q_block_exit))|(((with_reducible apply c_iff);exact rfl;(assumption)))|((with_reducible apply l_call);exact rfl;exact rfl;exact hbg _;exact rfl;rintro _ w' ⟨rfl,hS'⟩;replace hS:=hS.transA hS';simp only [appA] at hS;clear hS'))
  (apply q_ret1);(repeat (first|exact ResL.nil|(apply ResL.tmp;exact rfl)))
  exact ⟨rfl,hS.sub (List.nil_sublist _)⟩
end Go.Proofs.Ytejnpppejalhfab
/- Arguments that are slices, opened: what their elements' cells are. -/
namespace Go.Proofs.Ytejnpppejalhfab
open Go.ChangeShapes Go.WideShapes Go.ChangeAt Go.RowKit Go.Deep
def RowsAre {α:Type} (R:α→List Value→Prop) (xs:List α) (rows:List (List Value)):Prop:=rows.length=xs.length∧∀ (i:Nat) (x:α) (r:List Value),xs[i]?=some x→rows[i]?=some r→R x r
section
variable {H:Type} {enc:TypeId×Value→H} {P:Program} {w:World} {base:Nat} {spare:Nat→Bool} {held:Bool}
theorem open_sl {α:Type} [Inhabited α] {t e:TypeId} {fuel sz:Nat} {cs:List Value} {y:DataW H×List MemPlace} (ht:P.underlying t=some (.slice e)) (hsz:P.cellsOf e=sz) (hpos:0 < sz) (R:α→List Value→Prop) (hR1:∀ x r,R x r→r.all (·.oneCell')=true)
  (hR:∀ (n:Nat) (cs':List Value) (z:DataW H×List MemPlace),cs'.length=sz→DataW.trod enc P w base spare held n e cs'=some z→∃ x:α,R x cs') (h:DataW.trod enc P w base spare held fuel t cs=some y) :
  ∃ v xs rows,cs=[v]∧Sl nF w sz v rows∧RowsAre R xs rows∧v.oneCell'=true:=by
 rcases open_slice ht h with ⟨rfl,_⟩|⟨a,len,cap,m,n,D,Pl,rfl,hb,hl,hm,hmm,_,hx⟩
 ·exact ⟨_,[],[],rfl,Or.inl ⟨_,_,rfl,rfl⟩,⟨rfl,fun i x r h=>by simp at h⟩,rfl⟩
 ·have hlm:len≤m:=by rw [hmm];split <;> omega
  rw [hsz] at hx
  have key:∀ i,∃ r x,i < len→w.cells? base (a.add (i * sz)) sz=some r∧R x r∧r.length=sz:=fun i=>by
   by_cases hi:i < len
   ·obtain ⟨cs',h1,h2⟩:=hx i (by omega)
    have hl:=(World.cells?_some h1).2.1
    obtain ⟨x,hr⟩:=hR n cs' _ hl h2
    exact ⟨cs',x,fun _=>⟨h1,hr,hl⟩⟩
   ·exact ⟨[],default,fun h=>(hi h).elim⟩
  obtain ⟨r,hr⟩:=Classical.axiomOfChoice key
  obtain ⟨x,hr⟩:=Classical.axiomOfChoice hr
  refine ⟨_,(List.range len).map x,(List.range len).map r,rfl,?_,⟨by simp,fun i y r' h1 h2=>?_⟩,rfl⟩
  ·by_cases h0:len=0
   ·subst h0;exact Or.inl ⟨_,_,rfl,rfl⟩
   ·obtain ⟨b,off,spot⟩:=a
    have hcell:∀ i,i < len→∀ j,j < sz→w.cell? (((⟨b,off,spot⟩:Addr).add (i * sz)).add j)=(r i)[j]?:=fun i hi j hj=>(World.cells?_some (hr i hi).1).2.2 j hj
    have h00:=hcell 0 (by omega) 0 hpos
    obtain ⟨u0,hu0⟩:∃ u,(r 0)[0]?=some u:=⟨(r 0)[0]'(by rw [(hr 0 (by omega)).2.2];exact hpos),by simp⟩
    rw [hu0] at h00
    simp only [Nat.zero_mul,Addr.add,if_true] at h00
    have hspot:spot=none:=by
     cases spot with
     |none=>rfl
     |some s=>simp [World.cell?] at h00;split at h00 <;> simp at h00
    subst hspot
    have hbl:=World.block_lt_of_cell? w _ h00
    refine Or.inr ⟨b,off,cap,by simp,by simpa using hl,hm,⟨hbl,id,fun r' hr'=>?_,fun r' hr'=>?_,fun k r' hk j u hj=>?_⟩⟩
    ·obtain ⟨i,hi,rfl⟩:=List.mem_map.1 hr'
     exact (hr i (by simpa using hi)).2.2
    ·obtain ⟨i,hi,rfl⟩:=List.mem_map.1 hr'
     exact hR1 _ _ (hr i (by simpa using hi)).2.1
    ·have hk':k < len:=by have:=lt_of_getE hk;simpa using this
     simp [hk'] at hk
     subst hk
     have hjl:j < sz:=by have:=lt_of_getE hj;rwa [(hr k hk').2.2] at this
     have:=hcell k hk' j hjl
     rw [hj] at this
     rwa [Addr.add_mid,Addr.add_mid] at this
  ·have hi:i < len:=by have:=lt_of_getE h1;simpa using this
   simp [hi] at h1 h2
   subst h1 h2
   exact (hr i hi).2.1
end
end Go.Proofs.Ytejnpppejalhfab
/- A slice of areas that came in. -/
namespace Go.Proofs.Ytejnpppejalhfab
open Go.ChangeShapes Go.WideShapes Go.ChangeAt Go.RowKit
section
variable {H:Type} {enc:TypeId×Value→H} {W:World} {base b0:Nat} {sp:Nat→Bool} {held:Bool}
theorem cI {n:Nat} {t:TypeId} {c:Value} {o:Option (DataW H×List MemPlace)} (ht:(Try.prog).underlying t=some (.int .i64)) (h:DataW.trod enc Try.prog W base sp held n t [c]=o) (ho:o.isSome=true):∃ k:Int,c=.int .i64 k∧(Lit.int .i64 k).wf=true:=by
 obtain ⟨x,hx⟩:=Option.isSome_iff_exists.1 ho
 obtain ⟨k,hk,_,hw⟩:=DataW.trod_int ht (h.trans hx)
 simp only [List.cons.injEq,and_true] at hk
 exact ⟨k,hk,hw⟩
theorem cB {n:Nat} {t:TypeId} {c:Value} {o:Option (DataW H×List MemPlace)} (ht:(Try.prog).underlying t=some .bool) (h:DataW.trod enc Try.prog W base sp held n t [c]=o) (ho:o.isSome=true):∃ b:Bool,c=.bool b:=by
 obtain ⟨x,hx⟩:=Option.isSome_iff_exists.1 ho
 obtain ⟨b,hb,_⟩:=DataW.trod_bool ht (h.trans hx)
 simp only [List.cons.injEq,and_true] at hb
 exact ⟨b,hb⟩
theorem cS {n:Nat} {t:TypeId} {c:Value} {o:Option (DataW H×List MemPlace)} (ht:(Try.prog).underlying t=some .string) (h:DataW.trod enc Try.prog W base sp held n t [c]=o) (ho:o.isSome=true):∃ l:List UInt8,c=.string ⟨l.toArray⟩∧l.length≤maxLen:=by
 obtain ⟨x,hx⟩:=Option.isSome_iff_exists.1 ho
 obtain ⟨s,hs,_,hl⟩:=DataW.trod_string ht (h.trans hx)
 simp only [List.cons.injEq,and_true] at hs
 obtain ⟨⟨l⟩⟩:=s
 exact ⟨l,hs,by simpa [ByteArray.size] using hl⟩
theorem gS {α:Type} {l:List α} {i:Nat} (h:i < l.length):(l[i]?).isSome=true:=by simp [h]
theorem cc_int:(Try.prog).cellsOf 3=1:=by kernel_rfl
theorem cc_bool:(Try.prog).cellsOf 4=1:=by kernel_rfl
theorem cc_string:(Try.prog).cellsOf 9=1:=by kernel_rfl
theorem cc_area:(Try.prog).cellsOf 131=4:=by kernel_rfl
instance:Inhabited Ar:=⟨⟨0,0,0,false⟩⟩
set_option maxRecDepth 100000 in
theorem open_area {n:Nat} {cs:List Value} {z:DataW H×List MemPlace} (hl:cs.length=4) (h:DataW.trod enc Try.prog W base sp held n 131 cs=some z):∃ a:Ar,cs=arC a:=by
 match cs,hl with
 |[c0,c1,c2,c3],_=>
  obtain ⟨xs,n,_,_,_,hl,hf⟩:=DataW.trod_struct Try.underlying131 h
  have f0:=hf 0 _ rfl
  have f1:=hf 1 _ rfl
  have f2:=hf 2 _ rfl
  have f3:=hf 3 _ rfl
  simp only [List.getElem_toArray,List.getElem_cons_zero,List.getElem_cons_succ,cc_int,cc_bool,List.drop_succ_cons,List.drop_zero,List.take_succ_cons,List.take_zero] at f0 f1 f2 f3
  have hl:xs.length=4:=hl
  obtain ⟨k0,rfl,_⟩:=cI Try.underlying3 f0 (gS (by omega))
  obtain ⟨k1,rfl,_⟩:=cI Try.underlying3 f1 (gS (by omega))
  obtain ⟨k2,rfl,_⟩:=cI Try.underlying3 f2 (gS (by omega))
  obtain ⟨k3,rfl⟩:=cB Try.underlying4 f3 (gS (by omega))
  exact ⟨⟨k0,k1,k2,k3⟩,rfl⟩
end
end Go.Proofs.Ytejnpppejalhfab
/- What was linked, and a sheet, that came in. -/
namespace Go.Proofs.Ytejnpppejalhfab
open Go.ChangeShapes Go.WideShapes Go.ChangeAt Go.RowKit
section
variable {H:Type} {enc:TypeId×Value→H} {W:World} {base b0:Nat} {sp:Nat→Bool} {held:Bool}
instance:Inhabited Fx:=⟨⟨0,[]⟩⟩
instance:Inhabited Sh:=⟨⟨0,[],[]⟩⟩
theorem cc_fix:(Try.prog).cellsOf 124=2:=by kernel_rfl
theorem cc_sheet:(Try.prog).cellsOf 49=3:=by kernel_rfl
theorem cc_fixes:(Try.prog).cellsOf 47=1:=by kernel_rfl
theorem cc_areas:(Try.prog).cellsOf 37=1:=by kernel_rfl
theorem cc_sheets:(Try.prog).cellsOf 38=1:=by kernel_rfl
theorem rowsAre_map {α:Type} {f:α→List Value} {G:α→Prop} {xs:List α} {rows:List (List Value)} (h:RowsAre (fun a r=>r=f a∧G a) xs rows):rows=xs.map f∧∀ x ∈ xs,G x:=by
 obtain ⟨h1,h2⟩:=h
 refine ⟨?_,fun x hx=>?_⟩
 ·apply List.ext_getElem?
  intro i
  rw [List.getElem?_map]
  by_cases hi:i < xs.length
  ·rw [List.getElem?_eq_getElem hi,List.getElem?_eq_getElem (by omega)]
   simp only [Option.map_some,Option.some.injEq]
   exact (h2 i _ _ (List.getElem?_eq_getElem hi) (List.getElem?_eq_getElem (by omega))).1
  ·rw [List.getElem?_eq_none (by omega),List.getElem?_eq_none (by omega)];rfl
 ·obtain ⟨i,hi⟩:=List.mem_iff_getElem?.1 hx
  have hl:=lt_of_getE hi
  exact (h2 i x _ hi (List.getElem?_eq_getElem (by rw [h1];exact hl))).2
theorem cc1 {c v:Value} (h:[c]=[v]):c=v:=by simpa using h
set_option maxRecDepth 100000 in
theorem open_fix {n:Nat} {cs:List Value} {z:DataW H×List MemPlace} (hl:cs.length=2) (h:DataW.trod enc Try.prog W base sp held n 124 cs=some z):∃ f:Fx,cs=fxC f:=by
 match cs,hl with
 |[c0,c1],_=>
  obtain ⟨xs,n,_,_,_,hl,hf⟩:=DataW.trod_struct Try.underlying124 h
  have f0:=hf 0 _ rfl
  have f1:=hf 1 _ rfl
  simp only [List.getElem_toArray,List.getElem_cons_zero,List.getElem_cons_succ,cc_int,cc_string,List.drop_succ_cons,List.drop_zero,List.take_succ_cons,List.take_zero] at f0 f1
  have hl:xs.length=2:=hl
  obtain ⟨k0,rfl,_⟩:=cI Try.underlying3 f0 (gS (by omega))
  obtain ⟨l1,rfl,_⟩:=cS Try.underlying9 f1 (gS (by omega))
  exact ⟨⟨k0,l1⟩,rfl⟩
theorem open_slC {α:Type} [Inhabited α] {n:Nat} {t e sz:Nat} {c:Value} {o:Option (DataW H×List MemPlace)} (ht:(Try.prog).underlying t=some (.slice e)) (hsz:(Try.prog).cellsOf e=sz) (hpos:0 < sz) (f:α→List Value) (G:α→Prop) (h1:∀ x,(f x).all (·.oneCell')=true∨¬ G x)
  (hR:∀ (n:Nat) (cs':List Value) (z:DataW H×List MemPlace),cs'.length=sz→DataW.trod enc Try.prog W base sp held n e cs'=some z→∃ x:α,cs'=f x∧G x) (h:DataW.trod enc Try.prog W base sp held n t [c]=o) (ho:o.isSome=true):∃ xs:List α,Sl nF W sz c (xs.map f)∧(∀ x ∈ xs,G x)∧c.oneCell'=true:=by
 obtain ⟨x,hx⟩:=Option.isSome_iff_exists.1 ho
 obtain ⟨v,xs,rows,hv,hsl,hra,hone⟩:=open_sl ht hsz hpos (fun (a:α) r=>r=f a∧G a) (fun x r h=>by
  obtain ⟨rfl,hg⟩:=h
  rcases h1 x with h|h
  ·exact h
  ·exact absurd hg h) (fun n cs' z hl hz=>hR n cs' z hl hz) (h.trans hx)
 obtain rfl:=cc1 hv
 obtain ⟨rfl,hg⟩:=rowsAre_map hra
 exact ⟨xs,hsl,hg,hone⟩
set_option maxRecDepth 100000 in
theorem open_sheetC {n:Nat} {cs:List Value} {z:DataW H×List MemPlace} (hl:cs.length=3) (h:DataW.trod enc Try.prog W base sp held n 49 cs=some z):∃ x:Sh×Value,cs=shC x.1 x.2∧ShV W x.1 x.2∧x.2.oneCell'=true:=by
 match cs,hl with
 |[c0,c1,c2],_=>
  obtain ⟨xs,n,_,_,_,hl,hf⟩:=DataW.trod_struct Try.underlying49 h
  have f0:=hf 0 _ rfl
  have f1:=hf 1 _ rfl
  have f2:=hf 2 _ rfl
  simp only [List.getElem_toArray,List.getElem_cons_zero,List.getElem_cons_succ,cc_int,cc_string,cc_fixes,List.drop_succ_cons,List.drop_zero,List.take_succ_cons,List.take_zero] at f0 f1 f2
  have hl:xs.length=3:=hl
  obtain ⟨k0,rfl,_⟩:=cI Try.underlying3 f0 (gS (by omega))
  obtain ⟨l1,rfl,_⟩:=cS Try.underlying9 f1 (gS (by omega))
  obtain ⟨fs,h2,_,h3⟩:=open_slC Try.underlying47 cc_fix (by decide) fxC (fun _=>True) (fun x=>Or.inl rfl) (fun _ _ _ hl hz=>by obtain ⟨f,hf⟩:=open_fix hl hz;exact ⟨f,hf,trivial⟩) f2 (gS (by omega))
  exact ⟨(⟨k0,l1,fs⟩,c2),rfl,h2,h3⟩
end
end Go.Proofs.Ytejnpppejalhfab
/- A kernel that came in. -/
namespace Go.Proofs.Ytejnpppejalhfab
open Go.ChangeShapes Go.WideShapes Go.ChangeAt Go.RowKit
section
variable {H:Type} {enc:TypeId×Value→H} {W:World} {base b0:Nat} {sp:Nat→Bool} {held:Bool}
instance:Inhabited Fm:=⟨fm0⟩
instance:Inhabited Sw:=⟨sw0⟩
instance:Inhabited En:=⟨⟨0,0,0⟩⟩
instance:Inhabited Sp:=⟨⟨⟨false,[],[]⟩,.bool false,.bool false⟩⟩
theorem cc_frame:(Try.prog).cellsOf 142=4:=by kernel_rfl
theorem cc_slot:(Try.prog).cellsOf 165=2:=by kernel_rfl
theorem cc_space:(Try.prog).cellsOf 160=3:=by kernel_rfl
theorem cc_entry:(Try.prog).cellsOf 177=3:=by kernel_rfl
theorem cc_kernel:(Try.prog).cellsOf 61=5:=by kernel_rfl
theorem cc_frames:(Try.prog).cellsOf 57=1:=by kernel_rfl
theorem cc_slots:(Try.prog).cellsOf 58=1:=by kernel_rfl
theorem cc_spaces:(Try.prog).cellsOf 59=1:=by kernel_rfl
theorem cc_entries:(Try.prog).cellsOf 158=1:=by kernel_rfl
set_option maxRecDepth 100000 in
theorem open_entry {n:Nat} {cs:List Value} {z:DataW H×List MemPlace} (hl:cs.length=3) (h:DataW.trod enc Try.prog W base sp held n 177 cs=some z):∃ e:En,cs=enC e:=by
 match cs,hl with
 |[c0,c1,c2],_=>
  obtain ⟨xs,n,_,_,_,hl,hf⟩:=DataW.trod_struct Try.underlying177 h
  have f0:=hf 0 _ rfl
  have f1:=hf 1 _ rfl
  have f2:=hf 2 _ rfl
  simp only [List.getElem_toArray,List.getElem_cons_zero,List.getElem_cons_succ,cc_int,List.drop_succ_cons,List.drop_zero,List.take_succ_cons,List.take_zero] at f0 f1 f2
  have hl:xs.length=3:=hl
  obtain ⟨k0,rfl,_⟩:=cI Try.underlying3 f0 (gS (by omega))
  obtain ⟨k1,rfl,_⟩:=cI Try.underlying3 f1 (gS (by omega))
  obtain ⟨k2,rfl,_⟩:=cI Try.underlying3 f2 (gS (by omega))
  exact ⟨⟨k0,k1,k2⟩,rfl⟩
set_option maxRecDepth 100000 in
theorem open_frame {n:Nat} {cs:List Value} {z:DataW H×List MemPlace} (hl:cs.length=4) (h:DataW.trod enc Try.prog W base sp held n 142 cs=some z):∃ f:Fm,cs=fmC f:=by
 match cs,hl with
 |[c0,c1,c2,c3],_=>
  obtain ⟨xs,n,_,_,_,hl,hf⟩:=DataW.trod_struct Try.underlying142 h
  have f0:=hf 0 _ rfl
  have f1:=hf 1 _ rfl
  have f2:=hf 2 _ rfl
  have f3:=hf 3 _ rfl
  simp only [List.getElem_toArray,List.getElem_cons_zero,List.getElem_cons_succ,cc_int,cc_string,cc_bool,List.drop_succ_cons,List.drop_zero,List.take_succ_cons,List.take_zero] at f0 f1 f2 f3
  have hl:xs.length=4:=hl
  obtain ⟨l0,rfl,_⟩:=cS Try.underlying9 f0 (gS (by omega))
  obtain ⟨k1,rfl,_⟩:=cI Try.underlying3 f1 (gS (by omega))
  obtain ⟨b2,rfl⟩:=cB Try.underlying4 f2 (gS (by omega))
  obtain ⟨b3,rfl⟩:=cB Try.underlying4 f3 (gS (by omega))
  exact ⟨⟨l0,k1,b2,b3⟩,rfl⟩
set_option maxRecDepth 100000 in
theorem open_slot {n:Nat} {cs:List Value} {z:DataW H×List MemPlace} (hl:cs.length=2) (h:DataW.trod enc Try.prog W base sp held n 165 cs=some z):∃ s:Sw,cs=swC s:=by
 match cs,hl with
 |[c0,c1],_=>
  obtain ⟨xs,n,_,_,_,hl,hf⟩:=DataW.trod_struct Try.underlying165 h
  have f0:=hf 0 _ rfl
  have f1:=hf 1 _ rfl
  simp only [List.getElem_toArray,List.getElem_cons_zero,List.getElem_cons_succ,cc_int,cc_string,List.drop_succ_cons,List.drop_zero,List.take_succ_cons,List.take_zero] at f0 f1
  have hl:xs.length=2:=hl
  obtain ⟨l0,rfl,_⟩:=cS Try.underlying9 f0 (gS (by omega))
  obtain ⟨k1,rfl,_⟩:=cI Try.underlying3 f1 (gS (by omega))
  exact ⟨⟨l0,k1⟩,rfl⟩
set_option maxRecDepth 100000 in
theorem open_space {n:Nat} {cs:List Value} {z:DataW H×List MemPlace} (hl:cs.length=3) (h:DataW.trod enc Try.prog W base sp held n 160 cs=some z):∃ x:Sp,cs=spC x∧SpV W x∧x.va.oneCell'=true∧x.ve.oneCell'=true:=by
 match cs,hl with
 |[c0,c1,c2],_=>
  obtain ⟨xs,n,_,_,_,hl,hf⟩:=DataW.trod_struct Try.underlying160 h
  have f0:=hf 0 _ rfl
  have f1:=hf 1 _ rfl
  have f2:=hf 2 _ rfl
  simp only [List.getElem_toArray,List.getElem_cons_zero,List.getElem_cons_succ,cc_bool,cc_areas,cc_entries,List.drop_succ_cons,List.drop_zero,List.take_succ_cons,List.take_zero] at f0 f1 f2
  have hl:xs.length=3:=hl
  obtain ⟨b0,rfl⟩:=cB Try.underlying4 f0 (gS (by omega))
  obtain ⟨A,h1,_,o1⟩:=open_slC Try.underlying37 cc_area (by decide) arC (fun _=>True) (fun x=>Or.inl rfl) (fun _ _ _ hl hz=>by obtain ⟨f,hf⟩:=open_area hl hz;exact ⟨f,hf,trivial⟩) f1 (gS (by omega))
  obtain ⟨E,h2,_,o2⟩:=open_slC Try.underlying158 cc_entry (by decide) enC (fun _=>True) (fun x=>Or.inl rfl) (fun _ _ _ hl hz=>by obtain ⟨f,hf⟩:=open_entry hl hz;exact ⟨f,hf,trivial⟩) f2 (gS (by omega))
  exact ⟨⟨⟨b0,A,E⟩,c1,c2⟩,rfl,⟨h1,h2⟩,o1,o2⟩
set_option maxRecDepth 100000 in
theorem open_kernelC {n:Nat} {cs:List Value} {z:DataW H×List MemPlace} (hl:cs.length=5) (h:DataW.trod enc Try.prog W base sp held n 61 cs=some z):∃ k:KV,cs=kvC k∧KerV W k:=by
 match cs,hl with
 |[c0,c1,c2,c3,c4],_=>
  obtain ⟨xs,n,_,_,_,hl,hf⟩:=DataW.trod_struct Try.underlying61 h
  have f0:=hf 0 _ rfl
  have f1:=hf 1 _ rfl
  have f2:=hf 2 _ rfl
  have f3:=hf 3 _ rfl
  have f4:=hf 4 _ rfl
  simp only [List.getElem_toArray,List.getElem_cons_zero,List.getElem_cons_succ,cc_int,cc_sheets,cc_frames,cc_slots,cc_spaces,List.drop_succ_cons,List.drop_zero,List.take_succ_cons,List.take_zero] at f0 f1 f2 f3 f4
  have hl:xs.length=5:=hl
  obtain ⟨Lp,h3,h4,_⟩:=open_slC (α:=Sh×Value) Try.underlying38 cc_sheet (by decide) (fun x=>shC x.1 x.2) (fun x=>ShV W x.1 x.2∧x.2.oneCell'=true) (fun x=>by
   by_cases hx:x.2.oneCell'=true
   ·left
    unfold shC
    simp only [List.all_cons,List.all_nil,Bool.and_true,hx]
    rfl
   ·exact Or.inr fun h=>hx h.2) (fun _ _ _ hl hz=>by obtain ⟨x,hx,h2,h3⟩:=open_sheetC hl hz;exact ⟨x,hx,h2,h3⟩) f0 (gS (by omega))
  obtain ⟨F,h5,_,_⟩:=open_slC Try.underlying57 cc_frame (by decide) fmC (fun _=>True) (fun x=>Or.inl rfl) (fun _ _ _ hl hz=>by obtain ⟨f,hf⟩:=open_frame hl hz;exact ⟨f,hf,trivial⟩) f1 (gS (by omega))
  obtain ⟨S,h6,_,_⟩:=open_slC Try.underlying58 cc_slot (by decide) swC (fun _=>True) (fun x=>Or.inl rfl) (fun _ _ _ hl hz=>by obtain ⟨f,hf⟩:=open_slot hl hz;exact ⟨f,hf,trivial⟩) f2 (gS (by omega))
  obtain ⟨X,h7,h8,_⟩:=open_slC (α:=Sp) Try.underlying59 cc_space (by decide) spC (fun x=>SpV W x∧x.va.oneCell'=true∧x.ve.oneCell'=true) (fun x=>by
   by_cases hx:x.va.oneCell'=true∧x.ve.oneCell'=true
   ·left
    unfold spC
    simp only [List.all_cons,List.all_nil,Bool.and_true,hx.1,hx.2]
    rfl
   ·exact Or.inr fun h=>hx h.2) (fun _ _ _ hl hz=>by obtain ⟨x,hx,h2,h3⟩:=open_space hl hz;exact ⟨x,hx,h2,h3⟩) f3 (gS (by omega))
  obtain ⟨k4,rfl,_⟩:=cI Try.underlying3 f4 (gS (by omega))
  exact ⟨⟨Lp,F,S,X,k4,c0,c1,c2,c3⟩,rfl,⟨⟨h3,fun p hp=>(h4 p hp).1⟩,h5,h6,h7,fun p hp=>(h8 p hp).1⟩⟩
set_option maxRecDepth 100000 in
theorem open_kernel {v:Value} {d:DataW H} {ps:List MemPlace} (hval:Value.okWide Try.prog W .any b0 61 v) (h:DataW.Trod enc Try.prog W base sp held 61 v d ps):∃ k:KV,v=.agg (kvC k).toArray∧KerV W k:=by
 obtain ⟨cs,rfl,hsz⟩:=okWide_struct Try.underlying61 hval
 obtain ⟨fuel,hf⟩:=h
 have hc:(Value.agg cs).cells=cs:=rfl
 rw [hc] at hf
 have hlen:cs.toList.length=5:=by rw [Array.length_toList,hsz,cc_kernel]
 obtain ⟨k,h1,h2⟩:=open_kernelC hlen hf
 exact ⟨k,by rw [← h1,Array.toArray_toList],h2⟩
end
end Go.Proofs.Ytejnpppejalhfab
