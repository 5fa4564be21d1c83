/- Texts that the proof stands on, one behind the other: Ar8, Ar9, Ar10, Ar17, Tab, Sc12, Sc14, Sc15, Sc16, Sc17, Go, As1, As2, Ar19, Ar20, Ar21, Ar22, Ar23, Ar5, Ar11, Ar12, Ar13, Ar14, Ar15, Ar16, As3, As4, Ar6, As5, PlArea3, PlFl, Sc18, Sc19. -/
import Derived.Deep.DeepAppendWide
import Derived.Laws.OwnMore
import Derived.Laws.Cover2
import Derived.Test.YtejnpppejalhfadGreatProg
import Derived.OrdersHeld
import Derived.WalkLawsBesides
import Derived.Recover
import Derived.Laws.Strings2
import Derived.Laws.Strings3
import Derived.Maps.AppendAt
import Derived.Deep.RegionWith
import Derived.Deep.DeepCutAuto
import Derived.Lib.AppendZerosOnto
import Derived.Lib.Walk
import Derived.Test.YtejnpppejalhfadGreatPFlatPeeks2
set_option linter.unusedVariables false
set_option linter.unusedSimpArgs false
namespace Go.Proofs.YtejnpppejalhfadGreat
set_option maxRecDepth 100000
set_option maxHeartbeats 8000000
open Go.RowKit Go.Sort
theorem a4k {L:List Ar} (h:j0 1 L):1<=t5 1 L:=a2l h
theorem a51 (p:Option Addr) (c:Nat) (w:World):Calls Tryz.prog 99 #[.slice p 0 c] w (s7 [] w):=by
 have hszb:(Tryz.prog.info? 203).map (·.size)=some 256:=by kernel_rfl
 have Hszb:=hid hszb;clear hszb;have hbw:=Below.refl w.heap.size w
 go_enter Tryz.func99,Tryz.ntmps99
 go_wp2_with (first|(with_reducible refine l2 2 ?_);refine b8 rfl (some 2) rfl (bdC (fun _=>0)) 203 (by kernel_rfl) w.heap.size w hbw hbw.size ?_;intro g2 wn2 hL2 hB2 hbn hkn hnn;skip;clear hbw hkn hnn;have hbw:=hbn;clear hbn|(with_reducible refine l2 4 ?_);refine b8 rfl (some 4) rfl (bdC (fun _=>0)) 203 (by kernel_rfl) w.heap.size w hbw hbw.size ?_;intro g4 wn4 hL4 hB4 hbn hkn hnn;(try have n2_4:=hnn _ hL2.lt);(try have n4_2:=Ne.symm (hnn _ hL2.lt));(try have hL2:=hL2.kept hkn);clear hbw hkn hnn;have hbw:=hbn;clear hbn)
 go_loopw [5,6] (fun vl vi wr=>vl=.int .i64 0/\vi=.int .i64 0/\wr=wn4) (fun _ _ _=>0)
 case atStart=>exact ⟨rfl,rfl,rfl⟩
 case round=>
  obtain ⟨rfl,rfl,rfl⟩:=hrel
  go_wp2_with (first|(with_reducible refine l2 44 ?_);refine x6 rfl 203 (.tmp 4) rfl g4 (bdC (fun _=>0)) rfl hL4 _ Tryz.underlying203 rfl (by rw [Hszb.out,g8]) ?_|(with_reducible refine j4 2 ?_);refine a6 rfl 203 (.tmp 2) (.tmp 44) rfl rfl g2 (bdC (fun _=>0)) (bdC (fun _=>0)) rfl rfl hL2 (by rw [Hszb.out,g8]) (by simp [g8]) (a0k _) w.heap.size w hbw hB2 ?_;intro wp2 hLn hbn hon;(try have hL4:=hL4.other hon n4_2);clear hL2 hbw hon;have hL2:=hLn;have hbw:=hbn;clear hLn hbn)
  refine bodyPost_ret (v:=.tuple #[.agg (bdC (fun _=>0)).toArray,.bool true]) (i4 rfl _ g2 (bdC (fun _=>0)) (.bool true) _ rfl rfl hL2 Tryz.underlying203 rfl (by rw [Hszb.out,g8])) rfl ?_;exact ⟨fun _=>0,rfl,hbw,fun _=>rfl⟩
theorem a53 {L:List Ar} {w:World} (b off cap:Nat) (hbl:b < w.heap.size) (d9:∀ i a,L[i]?=some a->CellsAr w b (off + i * 4) a) (hok:∀ (i:Nat) (a:Ar),L[i]?=some a->a.ok) (hlen:L.length<=255) :
  Calls Tryz.prog 99 #[.slice (some ⟨b,off,none⟩) L.length cap] w (s7 L w):=by
 have hszb:(Tryz.prog.info? 203).map (·.size)=some 256:=by kernel_rfl
 have Hszb:=hid hszb;clear hszb;have hsz:(Tryz.prog.info? 119).map (·.size)=some 4:=by kernel_rfl
 have Hsz:=hid hsz;clear hsz;have hsz:(Tryz.prog.info? 3).map (·.size)=some 1:=by kernel_rfl
 have Hsz1:=hid hsz;clear hsz;have HL:=hid d9;have HO:=hid hok;clear d9 hok;have hbw:=Below.refl w.heap.size w
 go_enter Tryz.func99,Tryz.ntmps99
 go_wp2_with (first|(with_reducible refine l2 2 ?_);refine b8 rfl (some 2) rfl (bdC (fun _=>0)) 203 (by kernel_rfl) w.heap.size w hbw hbw.size ?_;intro g2 wn2 hL2 hB2 hbn hkn hnn;skip;clear hbw hkn hnn;have hbw:=hbn;clear hbn|(with_reducible refine l2 4 ?_);refine b8 rfl (some 4) rfl (bdC (fun _=>0)) 203 (by kernel_rfl) w.heap.size w hbw hbw.size ?_;intro g4 wn4 hL4 hB4 hbn hkn hnn;(try have n2_4:=hnn _ hL2.lt);(try have n4_2:=Ne.symm (hnn _ hL2.lt));(try have hL2:=hL2.kept hkn);clear hbw hkn hnn;have hbw:=hbn;clear hbn)
 go_loopw [5,6] (fun vl vi wr=>∃ i:Nat,i<=L.length/\vi=.int .i64 i/\vl=.int .i64 (t5 1 (L.take i) - 1)/\Below w.heap.size w wr/\HoldL wr g4 (bdC (d6 (L.take i)))/\HoldL wr g2 (bdC (fun _=>0))/\Hid (j0 1 (L.take i))) (fun _ vi _=>L.length - (intOf vi).toNat)
 case atStart=>exact ⟨0,by omega,rfl,rfl,hbw,hL4,hL2,trivial⟩
 case round=>
  clear hbw hL4 hL2;obtain ⟨i,hi,rfl,rfl,hbw,hL4,hL2,HR⟩:=hrel;by_cases hlt:i < L.length
  ·obtain ⟨a,ha⟩:∃ a,L[i]?=some a:=⟨L[i],by simp [hlt]⟩;obtain ⟨c0,c1,c2,c3⟩:=(HL.out i a ha).grown hbw hbl;have hao:=HO.out i a ha;have hbr:=z9 (xa6 hbl hbw.size);have HT:=hid (a4Y ha);by_cases hr:t5 1 (L.take i)<=a.pg
   ·have HX:Hid (j0 1 (L.take i++[a])):=a24.2 ⟨HR.out,hao,hr⟩;have hpos:=a4k HR.out;have hok:=hao;unfold Ar.ok at hok;have hfin:a.fin=a.pg + a.n:=rfl;have hw1:wrap64 (a.pg + a.n)=a.fin:=by rw [hfin];exact i9 _ (by omega) (by omega)
    have hw2:wrap64 (a.fin - 1)=a.fin - 1:=by rw [hfin];exact i9 _ (by omega) (by omega)
    have hlt2:t5 1 (L.take i) - 1 < a.pg:=by omega
    obtain ⟨q0,hq0⟩:=Int.eq_ofNat_of_zero_le (show 0<=a.pg by omega);have hmk:Hid (a.mk'=1 + 2 * a.prot + (if a.z then 8 else 0)):=hid rfl;have HM:=hid (fun w=>a5l (a6G a.prot a.z ⟨by omega,by omega⟩ w));rw [<- hmk.out] at HM;have HS:=hid (a3u (L.take i) a);have HE:=hid (a4r HX.out);have HP:=hid (fun q:Nat=>a34 (L.take i) a q);have HK:=hid (show ∀ q:Nat,(q:Int) < a.fin->q < 256 from fun q h=>by omega);have hqb:(q0:Int)<=a.fin:=by omega
    have HQ:=hid hq0;clear hr hao hok hpos hfin hq0;have HLT:=hid hlt;generalize hlst:t5 1 (L.take i) - 1=lst at *;clear hlst
    go_wp2_with (first|(with_reducible refine l2 7 ?_);refine b8 rfl (some 7) rfl (zl4) 119 (by kernel_rfl) w.heap.size w hbw hbw.size ?_;intro g7 wn7 hL7 hB7 hbn hkn hnn;(try have n2_7:=hnn _ hL2.lt);(try have n7_2:=Ne.symm (hnn _ hL2.lt));(try have hL2:=hL2.kept hkn);(try have n4_7:=hnn _ hL4.lt);(try have n7_4:=Ne.symm (hnn _ hL4.lt));(try have hL4:=hL4.kept hkn);clear hbw hkn hnn;have hbw:=hbn;clear hbn|((with_reducible refine j4 7 ?_);refine a6 rfl 119 (.tmp 7) (.tmp 18) rfl rfl g7 ([.int .i64 a.pg,.int .i64 a.n,.int .i64 a.prot,.bool a.z]) (zl4) rfl rfl hL7 Hsz.out rfl rfl w.heap.size w hbw hB7 ?_;intro wp7 hLn hbn hon;(try have hL2:=hL2.other hon n2_7);(try have hL4:=hL4.other hon n4_7);clear hL7 hbw hon;have hL7:=hLn;have hbw:=hbn;clear hLn hbn);have d0:wp7.cell? ⟨g7,0,none⟩=some (.int .i64 a.pg):=hL7.cell 0;have d1:wp7.cell? ⟨g7,1,none⟩=some (.int .i64 a.n):=hL7.cell 1)
    rw [hw1,hw2];clear hw1 hw2
    go_loopw [8] (fun vp wr=>∃ q:Nat,(a.pg<=q/\(q:Int)<=a.fin)/\vp=.int .i64 q/\Below w.heap.size w wr/\HoldL wr g4 (bdC (a0v (L.take i) a q))/\HoldL wr g2 (bdC (fun _=>0))/\HoldL wr g7 [.int .i64 a.pg,.int .i64 a.n,.int .i64 a.prot,.bool a.z]) (fun vp _=>(a.fin - intOf vp).toNat)
    case atStart=>
     refine ⟨q0,⟨Int.le_of_eq HQ.out,hqb⟩,by rw [HQ.out],hbw,?_,hL2,hL7⟩;have:=HS.out;rw [HQ.out] at this;rw [this];exact hL4
    case round=>
     clear hbw hL4 hL2 hL7;obtain ⟨q,⟨hq1,hq2⟩,rfl,hbw,hL4,hL2,hL7⟩:=hrel;have e2:=hL7.cell 2;have e3:=hL7.cell 3;by_cases hq:(q:Int) < a.fin
     ·have hq256:=HK.out q hq;have hq6:(q:Int) < 256:=by omega
      have hle:(q:Int)<=a.fin - 1:=by omega
      have HMONO:Hid (a.pg<=((q + 1:Nat):Int)/\((q + 1:Nat):Int)<=a.fin):=hid (by omega);have HMS:Hid ((a.fin - ((q:Int) + 1)).toNat < (a.fin - (q:Int)).toNat):=hid (by omega);have HWS:Hid (wrap64 ((q:Int) + 1)=(q:Int) + 1):=hid (i9 _ (by omega) (by omega));have HQ1:=hid hq1;clear hq1 hq2 hq hq256
      go_wp2_with (first|(go_at_call 140;(with_reducible refine (HM.out _).mono ?_);rintro e wc ⟨rfl,hbc⟩);have hL4:=hL4.grown hbc hL4.lt;have hL2:=hL2.grown hbc hL2.lt;have hL7:=hL7.grown hbc hL7.lt;have hbn:=bt hbw hbc;clear hbw hbc;have hbw:=hbn;clear hbn|(with_reducible refine j4 43 ?_);refine a1M rfl 3 (.tmp 43) (.tmp 42) rfl rfl Hsz1.out g4 q a.mk' rfl rfl (bdC (a0v (L.take i) a q)) hL4 (by rw [g8];exact Int.ofNat_lt.1 hq6) w.heap.size w hbw hB4 ?_;intro w6 hL46 hbw6 ho6;rw [HP.out q HQ1.out] at hL46;have hL2:=hL2.other ho6 n2_4;have hL7:=hL7.other ho6 n7_4)
      go_roundw
      case rel=>exact ⟨q + 1,HMONO.out,rfl,hbw6,hL46,hL2,hL7⟩
      case measure=>exact HMS.out
     ·have hqe:(q:Int)=a.fin:=by omega
      have hnl:a.fin - 1 < (q:Int):=by omega
      rw [hqe,HE.out] at hL4;have HQE:=hid hqe;clear hqe;have HWI:Hid (wrap64 ((i:Int) + 1)=(i:Int) + 1):=hid (i9 _ (by omega) (by omega));have HMS:Hid (L.length - ((i:Int) + 1).toNat < L.length - (i:Int).toNat):=hid (by omega);clear hq1 hq2 hq
      go_wp2
      refine ⟨⟨i + 1,hlt,rfl,?_,hbw,?_,hL2,?_⟩,?_⟩
      ·rw [HT.out,a43]
      ·rw [HT.out];exact hL4
      ·rw [HT.out];exact HX.out
      ·exact HMS.out
   ·have HX:Hid (¬ j0 1 L):=fun h=>by
     have:=a5z h (i + 1);rw [HT.out,a24] at this;exact hr this.2.2
    have hle:a.pg<=t5 1 (L.take i) - 1:=by omega
    clear hr HT hao;generalize t5 1 (L.take i) - 1=lst at *;generalize d6 (L.take i)=bb at *
    go_wp2_with (first|(with_reducible refine l2 7 ?_);refine b8 rfl (some 7) rfl (zl4) 119 (by kernel_rfl) w.heap.size w hbw hbw.size ?_;intro g7 wn7 hL7 hB7 hbn hkn hnn;(try have n2_7:=hnn _ hL2.lt);(try have n7_2:=Ne.symm (hnn _ hL2.lt));(try have hL2:=hL2.kept hkn);(try have n4_7:=hnn _ hL4.lt);(try have n7_4:=Ne.symm (hnn _ hL4.lt));(try have hL4:=hL4.kept hkn);clear hbw hkn hnn;have hbw:=hbn;clear hbn|((with_reducible refine j4 7 ?_);refine a6 rfl 119 (.tmp 7) (.tmp 18) rfl rfl g7 ([.int .i64 a.pg,.int .i64 a.n,.int .i64 a.prot,.bool a.z]) (zl4) rfl rfl hL7 Hsz.out rfl rfl w.heap.size w hbw hB7 ?_;intro wp7 hLn hbn hon;(try have hL2:=hL2.other hon n2_7);(try have hL4:=hL4.other hon n4_7);clear hL7 hbw hon;have hL7:=hLn;have hbw:=hbn;clear hLn hbn);have d0:wp7.cell? ⟨g7,0,none⟩=some (.int .i64 a.pg):=hL7.cell 0|(with_reducible refine l2 23 ?_);refine x6 rfl 203 (.tmp 4) rfl g4 (bdC bb) rfl hL4 _ Tryz.underlying203 rfl (by rw [Hszb.out,g8]) ?_|(with_reducible refine j4 2 ?_);refine a6 rfl 203 (.tmp 2) (.tmp 23) rfl rfl g2 (bdC bb) (bdC (fun _=>0)) rfl rfl hL2 (by rw [Hszb.out,g8]) (by simp [g8]) (a0k _) w.heap.size w hbw hB2 ?_;intro wp2 hLn hbn hon;(try have hL4:=hL4.other hon n4_2);(try have hL7:=hL7.other hon n7_2);clear hL2 hbw hon;have hL2:=hLn;have hbw:=hbn;clear hLn hbn)
    refine bodyPost_ret (v:=.tuple #[.agg (bdC bb).toArray,.bool false]) (i4 rfl _ g2 (bdC bb) (.bool false) _ rfl rfl hL2 Tryz.underlying203 rfl (by rw [Hszb.out,g8])) rfl ?_;exact ⟨bb,by rw [xh3 HX.out],hbw,fun h=>absurd h HX.out⟩
  ·have:i=L.length:=by omega
   subst this;rw [xe9] at hL4 HR
   go_wp2_with (first|(with_reducible refine l2 44 ?_);refine x6 rfl 203 (.tmp 4) rfl g4 (bdC (d6 L)) rfl hL4 _ Tryz.underlying203 rfl (by rw [Hszb.out,g8]) ?_|(with_reducible refine j4 2 ?_);refine a6 rfl 203 (.tmp 2) (.tmp 44) rfl rfl g2 (bdC (d6 L)) (bdC (fun _=>0)) rfl rfl hL2 (by rw [Hszb.out,g8]) (by simp [g8]) (a0k _) w.heap.size w hbw hB2 ?_;intro wp2 hLn hbn hon;(try have hL4:=hL4.other hon n4_2);clear hL2 hbw hon;have hL2:=hLn;have hbw:=hbn;clear hLn hbn)
   refine bodyPost_ret (v:=.tuple #[.agg (bdC (d6 L)).toArray,.bool true]) (i4 rfl _ g2 (bdC (d6 L)) (.bool true) _ rfl rfl hL2 Tryz.underlying203 rfl (by rw [Hszb.out,g8])) rfl ?_;exact ⟨d6 L,by rw [xh4 HR.out],hbw,fun _=>rfl⟩
def a0M (L:List Ar):List Value:=L.flatMap arC
theorem a1e (L:List Ar):(a0M L).length=L.length * 4:=by
 induction L with
 |nil=>rfl
 |cons a L ih=>unfold a0M at *;simp [arC,ih];omega
theorem a0J (L:List Ar) (a:Ar):a0M (L++[a])=a0M L++arC a:=by simp [a0M]
theorem a54 (L:List Ar) (a:Ar) (n:Int):a0M (L++[{ a with n:=n }])=(a0M (L++[a])).set (L.length * 4 + 1) (.int .i64 n):=by
 rw [a0J,a0J,List.set_append_right _ _ (by rw [a1e];omega),a1e,show L.length * 4 + 1 - L.length * 4=1 by omega];rfl
theorem a8G (L:List Ar) (a:Ar) (j:Nat) (h:j < 4):(a0M (L++[a]))[L.length * 4 + j]?=(arC a)[j]?:=by
 rw [a0J,xa3 (by rw [a1e];omega),a1e,show L.length * 4 + j - L.length * 4=j by omega]
theorem a1i {L:List Ar}:∀ {i:Nat} {a:Ar},L[i]?=some a->∀ j:Nat,j < 4->(a0M L)[i * 4 + j]?=(arC a)[j]?:=by
 induction L with
 |nil=>intro i a h;simp at h
 |cons c L ih=>
  intro i a h j hj;have e:a0M (c::L)=arC c++a0M L:=rfl;rw [e]
  cases i with
  |zero=>
   simp at h;subst h;rw [xa4 (by simp [arC];omega)];simp
  |succ i=>
   rw [xa3 (by simp [arC];omega),show (i + 1) * 4 + j - (arC c).length=i * 4 + j by simp [arC];omega];exact ih (by simpa using h) j hj
theorem a4E {w:World} {base:Nat} {e:TypeId} {v:Value} {L:List Ar} (h:w.ownsRow base e 4 v L.length (a0M L)):SlAr w v L:=by
 rcases h.2 with ⟨rfl,hn⟩|⟨g,cap,cur,rfl,hb,hg,hnc,hcm,_⟩
 ·exact xc6 ⟨_,_,rfl,xd9 hn⟩
 ·have hlt:=(xa7.1 hg).1;refine xc3 ⟨g,0,cap,rfl,hlt,hnc,hcm,fun i a ha=>?_⟩;obtain ⟨hi,_⟩:=xa5.1 ha;refine ⟨?_,?_,?_,?_⟩
  ·have:=h.cellAt (i * 4 + 0) (by omega);rw [a1i ha 0 (by decide)] at this;simpa [arC] using this
  ·have:=h.cellAt (i * 4 + 1) (by omega);rw [a1i ha 1 (by decide)] at this;simpa [arC] using this
  ·have:=h.cellAt (i * 4 + 2) (by omega);rw [a1i ha 2 (by decide)] at this;simpa [arC] using this
  ·have:=h.cellAt (i * 4 + 3) (by omega);rw [a1i ha 3 (by decide)] at this;simpa [arC] using this
theorem a2D {w w':World} {base:Nat} {e:TypeId} {size n:Nat} {v:Value} {xs:List Value} (h:w.ownsRow base e size v n xs) (hb:Below w.heap.size w w'):w'.ownsRow base e size v n xs:=by
 refine ⟨h.1,?_⟩;rcases h.2 with hn|⟨g,cap,cur,rfl,hbg,hgg,rest⟩
 ·exact .inl hn
 ·exact .inr ⟨g,cap,cur,rfl,hbg,by rw [hb.block g (xa7.1 hgg).1];exact hgg,rest⟩
theorem a5O (b:Int->Int) (k:Nat):∀ a ∈ l0 b k,1<=a.pg/\1<=a.n:=by
 induction k with
 |zero=>intro a h;simp [l0] at h
 |succ k ih=>
  unfold l0 y7
  split
  ·exact ih
  split
  ·intro a h;rcases List.eq_nil_or_concat (l0 b k) with e|⟨l,c,e⟩
   ·rw [e] at h;simp [t6] at h
   ·rw [e] at ih h;simp only [List.concat_eq_append] at ih h;rw [y8] at h;rcases xd1.1 h with h|h
    ·exact ih a (xd1.2 (xc6 h))
    ·have:a={ c with n:=c.n + 1 }:=by simpa using h
     subst this;have:=ih c (by simp);exact ⟨this.1,by simp only;omega⟩
  ·intro a h;rcases xd1.1 h with h|h
   ·exact ih a h
   ·rw [xh5] at h;rw [h];exact ⟨by simp only;omega,by simp only;omega⟩
theorem a5H (b:Int->Int) (k:Nat):(l0 b k).length<=k:=by
 induction k with
 |zero=>simp [l0]
 |succ k ih=>
  unfold l0 y7
  split
  ·omega
  split
  ·rcases List.eq_nil_or_concat (l0 b k) with e|⟨l,c,e⟩
   ·rw [e];simp [t6]
   ·rw [e] at ih |-;simp only [List.concat_eq_append] at ih |-;rw [y8];simp at ih |-;omega
  ·simp;omega
def a9r (base:Nat) (w:World) (v:Value) (L:List Ar):Prop:=w.ownsRow base 119 4 v L.length (a0M L)
theorem a6v {w:World} {base base':Nat} {v:Value} {L:List Ar} (h:w.ownsRow base 119 4 v L.length (a0M L)) (hb:base'<=base):a9r base' w v L:=by
 refine ⟨h.1,?_⟩;rcases h.2 with hn|⟨g,cap,cur,rfl,hg,rest⟩
 ·exact .inl hn
 ·exact .inr ⟨g,cap,cur,rfl,xc5 hb hg,rest⟩
def a5I (L:List Ar) (w:World) (e:Ending) (w':World):Prop:=∃ v,e=.returned v/\a9r w.heap.size w' v L/\Below w.heap.size w w'
theorem a5T:∃ i,(Tryz.prog).info? 119=some i/\i.zero=some (.agg #[.int .i64 0,.int .i64 0,.int .i64 0,.bool false])/\i.size=4/\i.bytes=32:=by
 have h:((Tryz.prog).info? 119).map (fun i=>(i.zero,i.size,i.bytes))=some (some (.agg #[.int .i64 0,.int .i64 0,.int .i64 0,.bool false]),4,32):=by kernel_rfl
 cases hq:(Tryz.prog).info? 119 with
 |none=>simp [hq] at h
 |some i=>
  simp [hq] at h;exact ⟨i,rfl,h.1,h.2.1,h.2.2⟩
theorem a5N (W:World) (c0 c1 c2 c3:Value) (t:TypeId):∀ (j:Nat) (u:Value),[c0,c1,c2,c3][j]?=some u->(W.alloc (.cells #[c0,c1,c2,c3] t)).cell? ((⟨W.heap.size,0,none⟩:Addr).add j)=some u:=by
 intro j u h;rw [show (⟨W.heap.size,0,none⟩:Addr).add j=⟨W.heap.size,j,none⟩ from by unfold Addr.add;split <;> simp_all];rw [World.cell?_alloc_mark,<- h];simp
theorem ms4 {k:Nat} (h:k < 255):(256 - ((k:Int) + 1 + 1)).toNat < (256 - ((k:Int) + 1)).toNat:=by omega
theorem a1z (b:Int->Int) (hm:∀ p,a50 (b p)) (h0:b 0=0) (w:World):Calls Tryz.prog 100 #[.agg (bdC b).toArray] w (a5I (l0 b 255) w):=by
 obtain ⟨i0,hi0,hz0,hs0,hy0⟩:=a5T;have HI:=hid hi0;have HZ:=hid hz0;have HSZ:=hid hs0;have HY:=hid hy0;have HA:=hid (a1y b hm h0);have HP:=hid (a5O b);have HN:=hid (a5H b);have HM:=hid hm;have HB:=hid (a4F b);clear hi0 hz0 hs0 hy0 hm h0;have hbw:=Below.refl w.heap.size w;obtain ⟨B,hB⟩:∃ B,B=bdC b:=⟨_,rfl⟩;rw [<- hB] at HB |-;clear hB
 go_enter Tryz.func100,Tryz.ntmps100
 go_wp2_with (first|(with_reducible refine l2 1 ?_);refine a1N rfl 203 (.tmp 0) rfl (some 1) rfl (B) rfl w.heap.size w hbw hbw.size ?_;intro g1 wn1 hL1 hB1 hbn hkn hnn;skip;clear hbw hkn hnn;have hbw:=hbn;clear hbn)
 go_loopw [3,4] (fun vo vp wr=>∃ k:Nat,k<=255/\vp=.int .i64 ((k:Int) + 1)/\Below wn1.heap.size wn1 wr/\wr.ownsRow wn1.heap.size 119 4 vo (l0 b k).length (a0M (l0 b k))) (fun _ vp _=>(256 - intOf vp).toNat)
 case atStart=>exact ⟨0,by omega,rfl,Below.refl _ _,World.ownsRow_nil _ _ _ _⟩
 case round=>
  obtain ⟨k,hk,rfl,hb2,hown⟩:=hrel;by_cases hlt:k < 255
  ·have h1b:=hL1.grown hb2 hL1.lt;have e0:=(h1b.cell k).trans (HB.out k (by omega));have e1:=(h1b.cell (k + 1)).trans (HB.out (k + 1) (by omega));rw [show ((k + 1:Nat):Int)=(k:Int) + 1 by omega] at e1;have z1:=z9 h1b.lt;have HS:Hid (l0 b (k + 1)=y7 b (l0 b k) ((k:Int) + 1)):=hid rfl;by_cases c1:b ((k:Int) + 1)=0
   ·have c1':(b ((k:Int) + 1) == 0)=true:=by simpa using c1
    have HX:Hid (l0 b (k + 1)=l0 b k):=by refine hid ?_;rw [HS.out];unfold y7;rw [xd6 c1]
    clear c1;generalize b ((k:Int) + 1)=bp at *;have HMS:=hid (ms4 hlt)
    go_wp2
    exact ⟨⟨k + 1,hlt,rfl,hb2,by rw [HX.out];exact hown⟩,HMS.out⟩
   have c1':(b ((k:Int) + 1) == 0)=false:=by simpa using c1
   have hmk:=HM.out ((k:Int) + 1);by_cases c2:b k=b ((k:Int) + 1)
   ·have c2':(b k == b ((k:Int) + 1))=true:=by simpa using c2
    obtain ⟨l,a,hla,hfin⟩:=(HA.out k).2.2 (by rw [c2];exact c1);have HX:Hid (l0 b (k + 1)=l++[{ a with n:=a.n + 1 }]):=by
     refine hid ?_;rw [HS.out];unfold y7;rw [xd7 c1,xd6 (by rw [show (k:Int) + 1 - 1=k by omega];exact c2),hla,y8]
    have hpg:=HP.out k a (by rw [hla];simp);have hfn:a.fin=a.pg + a.n:=rfl;have hw:wrap64 (a.n + 1)=a.n + 1:=by
     exact i9 _ (by omega) (by omega)
    have HF:=hid (a54 l a (a.n + 1));have HAT:=hid (a8G l a 1 (by decide));rw [hla,show (l++[a]).length=l.length + 1 by simp] at hown;have hlen:l.length<=255:=by have:=HN.out k;rw [hla] at this;simp at this;omega
    rcases hown.2 with ⟨_,h⟩|⟨g,cap,cur,rfl,hbg,hgg,hnc,hcm,hrest⟩
    ·omega
    have hglt:=(xa7.1 hgg).1;clear hgg hcm hrest cur;have HMS:=hid (ms4 hlt);clear c1 c2 hla hfin hpg hfn hmk;generalize b ((k:Int) + 1)=bp at *;generalize b k=bk at *;have t0:wr.cell? ⟨g,l.length * 4 + 1,none⟩=some (.int .i64 a.n):=(hown.cellAt (l.length * 4 + 1) (by omega)).trans HAT.out;have t1:=hown.frozenAt (l.length * 4 + 1);have zg:=z9 hglt
    go_wp2
    refine wp_region_quiet_below (by kernel_rfl) (by kernel_rfl) ?_
    repeat ((go_big_quiet_step ((fail))))
    refine wpQuiet_nil ?_;intro wq hw';obtain ⟨⟨dq,osq⟩,hw''⟩:=hw';have hbr:=d8 hw'';clear hw''
    first
     |(have hbn:=bt hbq hbr;clear hcq hfq hzq hbq hbr;have hbq:=hbn;clear hbn)
     |(have hbq:=hbr;clear hbr)
    obtain ⟨hcq,hfq,hzq⟩:=n8 hbq;have hown:=a2D hown hbq;have hb2:=bt hb2 hbq;have HS2:=hid (hown.stored (l.length * 4 + 1) (.int .i64 (a.n + 1)))
    go_wp2
    refine ⟨⟨k + 1,hlt,rfl,hb2.setCell hbg _,?_⟩,HMS.out⟩;rw [HX.out,HF.out]
    simpa using HS2.out.1
   ·have c2':(b k == b ((k:Int) + 1))=false:=by simpa using c2
    have HX:Hid (l0 b (k + 1)=l0 b k++[⟨(k:Int) + 1,1,(b ((k:Int) + 1) - 1) % 8 / 2,decide (8<=b ((k:Int) + 1) - 1)⟩]):=by
     refine hid ?_;rw [HS.out];unfold y7;rw [xd7 c1,xd7 (by rw [show (k:Int) + 1 - 1=k by omega];exact c2)]
    have HMS:=hid (ms4 hlt);have hlen:=HN.out k;have hmk2:1<=b ((k:Int) + 1)/\b ((k:Int) + 1)<=16:=by unfold a50 at hmk;omega
    obtain ⟨m1,m2⟩:=hmk2;have hr1:(b ((k:Int) + 1) - 1).tmod 8=(b ((k:Int) + 1) - 1) % 8:=Int.tmod_eq_emod_of_nonneg (by omega);have hr2:((b ((k:Int) + 1) - 1) % 8).tdiv 2=(b ((k:Int) + 1) - 1) % 8 / 2:=Int.tdiv_eq_ediv_of_nonneg (by omega);clear c1 c2 hmk;generalize l0 b k=U at *;generalize b ((k:Int) + 1)=bp at *;generalize b k=bk at *
    go_wp2
    refine wp_region_quiet_below (by kernel_rfl) (by kernel_rfl) ?_
    repeat ((go_big_quiet_step ((fail))))
    refine wpQuiet_nil ?_;intro wq hw';obtain ⟨⟨dq,osq⟩,hw''⟩:=hw';have hbr:=d8 hw'';clear hw''
    first
     |(have hbn:=bt hbq hbr;clear hcq hfq hzq hbq hbr;have hbq:=hbn;clear hbn)
     |(have hbq:=hbr;clear hbr)
    obtain ⟨hcq,hfq,hzq⟩:=n8 hbq;have hown:=a2D hown hbq;have hb2:=bt hb2 hbq
    go_wp2_with (first|(with_reducible refine l2 45 ?_);go_must (refine wpList_append_own_wide _ rfl (.tmp 36) (.tmp 44) 57 rfl wn1.heap.size 119 i0 (.agg #[.int .i64 0,.int .i64 0,.int .i64 0,.bool false]) 4 32 Tryz.underlying57 HI.out HZ.out HSZ.out HY.out rfl (by decide) u3 U.length (a0M U) rfl (hown.alloc _) ⟨wq.heap.size,0,none⟩ 1 1 [.int .i64 ((k:Int) + 1),.int .i64 1,.int .i64 ((bp - 1) % 8 / 2),.bool (decide (8<=bp - 1))] rfl rfl (a5N wq _ _ _ _ _) (by intro u hu;simp at hu;rcases hu with rfl|rfl|rfl|rfl <;> rfl) (by unfold maxLen;omega) (by omega) (by have:=hb2.size;simp;omega) ?_);intro v3 w3 hown3 hg3 hn3)
    have hb3:=(hb2.alloc hb2.size _).grown hg3 (by have:=hb2.size;simp;omega) (fun j hj=>(hown.lt j hj).1);refine ⟨⟨k + 1,hlt,rfl,hb3,?_⟩,HMS.out⟩;rw [HX.out,a0J,xd4];exact hown3
  ·go_wp2
   go_ret
   obtain rfl:k=255:=by omega
   exact ⟨_,rfl,a6v hown hbw.size,bt hbw hb2⟩
theorem a48 {A B:List Ar} (hl:A.length=B.length) (h:∀ (i:Nat) (a b:Ar),A[i]?=some a->B[i]?=some b->a=b):A=B:=by
 apply List.ext_getElem hl;intro i h1 h2;exact h i _ _ (by simp [h1]) (by simp [h2])
theorem a7O {A B:List Ar} {i:Nat} {a b:Ar} (ha:A[i]?=some a) (hb:B[i]?=some b) (h:a≠b):A≠B:=fun e=>by
 subst e;rw [ha] at hb;cases hb;exact h rfl
theorem a9n {A B:List Ar} (h:A.length≠B.length):A≠B:=fun e=>h (by rw [e])
theorem ms5 {i n:Nat} (h:i < n):n - ((i:Int) + 1).toNat < n - (i:Int).toNat:=by omega
theorem a41 (h n:Nat) (h1:h < n) (h2:n<=9223372036854775807):wrap64 ((h:Int) + 1)=(h:Int) + 1:=by unfold wrap64;omega
theorem a55 {A B:List Ar} {w:World} (b1 off1 cap1 b2 off2 cap2:Nat) (hb1:b1 < w.heap.size) (hb2:b2 < w.heap.size) (hc1:∀ i a,A[i]?=some a->CellsAr w b1 (off1 + i * 4) a) (hc2:∀ i a,B[i]?=some a->CellsAr w b2 (off2 + i * 4) a) (hl:A.length=B.length) (hmax:A.length<=9223372036854775807) :
  Calls Tryz.prog 31 #[.slice (some ⟨b1,off1,none⟩) A.length cap1,.slice (some ⟨b2,off2,none⟩) B.length cap2] w (RB (.bool (decide (A=B))) w):=by
 have HA:=hid hc1;have HB:=hid hc2;have HL:=hid hl;have HM:=hid hmax;rw [<- hl];clear hc1 hc2 hl hmax
 go_enter Tryz.func31,Tryz.ntmps31
 go_wp2
 go_loopw [5] (fun vi wr=>∃ i:Nat,i<=A.length/\vi=.int .i64 i/\Below w.heap.size w wr/\Hid (∀ (j:Nat) (a b:Ar),j < i->A[j]?=some a->B[j]?=some b->a=b)) (fun vi _=>A.length - (intOf vi).toNat)
 case atStart=>exact ⟨0,by omega,rfl,Below.refl _ _,fun j a b hj=>by omega⟩
 case round=>
  obtain ⟨i,hi,rfl,hb,HO⟩:=hrel;by_cases hlt:i < A.length
  ·obtain ⟨a,ha⟩:∃ a,A[i]?=some a:=⟨A[i],by simp [hlt]⟩;obtain ⟨b,hbb⟩:∃ b,B[i]?=some b:=⟨B[i]'(by have:=HL.out;omega),by simp⟩;obtain ⟨c0,c1,c2,c3⟩:=(HA.out i a ha).grown hb hb1;obtain ⟨d0,d1,d2,d3⟩:=(HB.out i b hbb).grown hb hb2;have z1:=z9 (xa6 hb1 hb.size);have z2:=z9 (xa6 hb2 hb.size);by_cases e:a=b
   ·have HX:=hid e;subst e;have hli:(i:Int) < A.length:=Int.ofNat_lt.2 hlt;have hws:=a41 i A.length hlt HM.out;have HMS:=hid (ms5 hlt)
    go_wp2
    refine wp_region_quiet_below (by kernel_rfl) (by kernel_rfl) ?_
    repeat (first|go_big_quiet_step ((fail))|quiet_step ((fail)))
    refine wpQuiet_nil ?_;intro wq hw';obtain ⟨⟨dq,osq⟩,hw''⟩:=hw';have hbr:=d8 hw'';clear hw''
    first
     |(have hbn:=bt hbq hbr;clear hcq hfq hzq hbq hbr;have hbq:=hbn;clear hbn)
     |(have hbq:=hbr;clear hbr)
    obtain ⟨hcq,hfq,hzq⟩:=n8 hbq
    go_wp2
    go_roundw
    case rel=>
     refine ⟨i + 1,hlt,by first|rfl|(rw [hws];rfl),bt hb hbq,fun j x y hj hx hy=>?_⟩;rcases xg8.1 hj with h|h
     ·exact HO.out j x y h hx hy
     ·subst h;rw [ha] at hx;rw [hbb] at hy;cases hx;cases hy;rfl
    case measure=>first|exact HMS.out|(rw [hws];exact HMS.out)
   ·have HX:=hid (a7O ha hbb e);by_cases e1:a.pg=b.pg
    ·by_cases e2:a.n=b.n
     ·by_cases e3:a.prot=b.prot
      ·have e4:¬ a.z=b.z:=fun h=>e (by cases a;cases b;simp_all);have f1:(a.pg == b.pg)=true:=by simpa using e1
       have f2:(a.n == b.n)=true:=by simpa using e2
       have f3:(a.prot == b.prot)=true:=by simpa using e3
       have f4:(a.z == b.z)=false:=by simpa using e4
       clear e e1 e2 e3 e4
       go_wp2
       refine wp_region_quiet_below (by kernel_rfl) (by kernel_rfl) ?_
       repeat (first|go_big_quiet_step ((fail))|quiet_step ((fail)))
       refine wpQuiet_nil ?_;intro wq hw';obtain ⟨⟨dq,osq⟩,hw''⟩:=hw';have hbr:=d8 hw'';clear hw''
       first
        |(have hbn:=bt hbq hbr;clear hcq hfq hzq hbq hbr;have hbq:=hbn;clear hbn)
        |(have hbq:=hbr;clear hbr)
       obtain ⟨hcq,hfq,hzq⟩:=n8 hbq
       go_wp2
       go_ret
       exact ⟨g9 (xh3 HX.out).symm,bt hb hbq⟩
      ·have f1:(a.pg == b.pg)=true:=by simpa using e1
       have f2:(a.n == b.n)=true:=by simpa using e2
       have f3:(a.prot == b.prot)=false:=by simpa using e3
       clear e e1 e2 e3
       go_wp2
       refine wp_region_quiet_below (by kernel_rfl) (by kernel_rfl) ?_
       repeat (first|go_big_quiet_step ((fail))|quiet_step ((fail)))
       refine wpQuiet_nil ?_;intro wq hw';obtain ⟨⟨dq,osq⟩,hw''⟩:=hw';have hbr:=d8 hw'';clear hw''
       first
        |(have hbn:=bt hbq hbr;clear hcq hfq hzq hbq hbr;have hbq:=hbn;clear hbn)
        |(have hbq:=hbr;clear hbr)
       obtain ⟨hcq,hfq,hzq⟩:=n8 hbq
       go_wp2
       go_ret
       exact ⟨g9 (xh3 HX.out).symm,bt hb hbq⟩
     ·have f1:(a.pg == b.pg)=true:=by simpa using e1
      have f2:(a.n == b.n)=false:=by simpa using e2
      clear e e1 e2
      go_wp2
      refine wp_region_quiet_below (by kernel_rfl) (by kernel_rfl) ?_
      repeat (first|go_big_quiet_step ((fail))|quiet_step ((fail)))
      refine wpQuiet_nil ?_;intro wq hw';obtain ⟨⟨dq,osq⟩,hw''⟩:=hw';have hbr:=d8 hw'';clear hw''
      first
       |(have hbn:=bt hbq hbr;clear hcq hfq hzq hbq hbr;have hbq:=hbn;clear hbn)
       |(have hbq:=hbr;clear hbr)
      obtain ⟨hcq,hfq,hzq⟩:=n8 hbq
      go_wp2
      go_ret
      exact ⟨g9 (xh3 HX.out).symm,bt hb hbq⟩
    ·have f1:(a.pg == b.pg)=false:=by simpa using e1
     clear e e1
     go_wp2
     refine wp_region_quiet_below (by kernel_rfl) (by kernel_rfl) ?_
     repeat (first|go_big_quiet_step ((fail))|quiet_step ((fail)))
     refine wpQuiet_nil ?_;intro wq hw';obtain ⟨⟨dq,osq⟩,hw''⟩:=hw';have hbr:=d8 hw'';clear hw''
     first
      |(have hbn:=bt hbq hbr;clear hcq hfq hzq hbq hbr;have hbq:=hbn;clear hbn)
      |(have hbq:=hbr;clear hbr)
     obtain ⟨hcq,hfq,hzq⟩:=n8 hbq
     go_wp2
     go_ret
     exact ⟨g9 (xh3 HX.out).symm,bt hb hbq⟩
  ·go_wp2
   go_ret
   obtain rfl:i=A.length:=by omega
   exact ⟨g9 (xh4 (a48 HL.out fun j x y hx hy=>HO.out j x y (xa5.1 hx).1 hx hy)).symm,hb⟩
def tab:Tab:=[
 (3,.sc (.int .i64) 1 (.int .i64 0)),
 (39,.st 5 [(0,1,false),(1,1,false),(2,1,false),(3,1,false),(4,1,false)] [.slice none 0 0,.slice none 0 0,.slice none 0 0,.slice none 0 0,.int .i64 0]),
 (57,.sl 119 4 32 true [.int .i64 0,.int .i64 0,.int .i64 0,.bool false]),
 (58,.sl 83 2 24 true [.int .i64 0,.string ⟨#[]⟩]),
 (26,.st 4 [(0,1,false),(1,1,false),(2,1,false),(3,1,false)] [.int .i64 0,.slice none 0 0,.slice none 0 0,.slice none 0 0]),
 (119,.st 4 [(0,1,false),(1,1,false),(2,1,false),(3,1,false)] [.int .i64 0,.int .i64 0,.int .i64 0,.bool false]),
 (89,.sl 190 3 24 true [.int .i64 0,.int .i64 0,.int .i64 0]),
 (9,.sc .string 1 (.string ⟨#[]⟩)),
 (190,.st 3 [(0,1,false),(1,1,false),(2,1,false)] [.int .i64 0,.int .i64 0,.int .i64 0]),
 (78,.st 13 [(0,8,true),(8,1,false),(9,1,false),(10,1,false),(11,2,true)] [.int .i64 0,.int .i64 0,.int .i64 0,.int .i64 0,.int .i64 0,.int .i64 0,.int .i64 0,.int .i64 0,.int .i64 0,.int .i64 0,.int .i64 0,.int .i64 0,.int .i64 0]),
 (83,.st 2 [(0,1,false),(1,1,false)] [.int .i64 0,.string ⟨#[]⟩]),
 (91,.st 3 [(0,1,false),(1,1,false),(2,1,false)] [.bool false,.slice none 0 0,.slice none 0 0]),
 (97,.st 5 [(0,1,false),(1,1,false),(2,1,false),(3,1,false),(4,1,false)] [.int .i64 0,.int .i64 0,.int .i64 0,.int .i64 0,.int .i64 0]),
 (37,.sl 91 3 56 true [.bool false,.slice none 0 0,.slice none 0 0]),
 (76,.st 2 [(0,1,false),(1,1,false)] [.int .i64 0,.int .i64 0]),
 (60,.st 3 [(0,1,false),(1,1,false),(2,1,false)] [.bool false,.slice none 0 0,.slice none 0 0]),
 (41,.st 7 [(0,5,true),(5,1,false),(6,1,false)] [.slice none 0 0,.slice none 0 0,.slice none 0 0,.slice none 0 0,.int .i64 0,.slice none 0 0,.slice none 0 0]),
 (35,.sl 177 4 32 true [.string ⟨#[]⟩,.int .i64 0,.bool false,.bool false]),
 (23,.sl 78 13 104 true [.int .i64 0,.int .i64 0,.int .i64 0,.int .i64 0,.int .i64 0,.int .i64 0,.int .i64 0,.int .i64 0,.int .i64 0,.int .i64 0,.int .i64 0,.int .i64 0,.int .i64 0]),
 (22,.sl 60 3 56 true [.bool false,.slice none 0 0,.slice none 0 0]),
 (143,.st 3 [(0,1,false),(1,1,false),(2,1,false)] [.int .i64 0,.string ⟨#[]⟩,.slice none 0 0]),
 (24,.sl 73 2 16 true [.int .i64 0,.int .i64 0]),
 (34,.sl 143 3 48 true [.int .i64 0,.string ⟨#[]⟩,.slice none 0 0]),
 (36,.sl 182 2 24 true [.string ⟨#[]⟩,.int .i64 0]),
 (177,.st 4 [(0,1,false),(1,1,false),(2,1,false),(3,1,false)] [.string ⟨#[]⟩,.int .i64 0,.bool false,.bool false]),
 (74,.ar 8 8 1 false [.int .i64 0,.int .i64 0,.int .i64 0,.int .i64 0,.int .i64 0,.int .i64 0,.int .i64 0,.int .i64 0]),
 (99,.st 5 [(0,1,false),(1,1,false),(2,1,false),(3,1,false),(4,1,false)] [.int .i64 0,.int .i64 0,.int .i64 0,.int .i64 0,.int .i64 0]),
 (157,.st 6 [(0,1,false),(1,1,false),(2,1,false),(3,1,false),(4,1,false),(5,1,false)] [.string ⟨#[]⟩,.slice none 0 0,.slice none 0 0,.slice none 0 0,.slice none 0 0,.int .i64 0]),
 (4,.sc .bool 1 (.bool false)),
 (69,.st 3 [(0,1,false),(1,1,false),(2,1,false)] [.slice none 0 0,.slice none 0 0,.int .i64 0]),
 (151,.st 5 [(0,1,false),(1,1,false),(2,1,false),(3,1,false),(4,1,false)] [.int .i64 0,.int .i64 0,.string ⟨#[]⟩,.bool false,.bool false]),
 (374,.st 7 [(0,5,true),(5,1,false),(6,1,false)] [.slice none 0 0,.slice none 0 0,.slice none 0 0,.slice none 0 0,.int .i64 0,.int .i64 0,.slice none 0 0]),
 (27,.sl 3 1 8 false [.int .i64 0]),
 (141,.sl 219 2 24 true [.int .i64 0,.string ⟨#[]⟩]),
 (182,.st 2 [(0,1,false),(1,1,false)] [.string ⟨#[]⟩,.int .i64 0]),
 (203,.ar 256 256 1 false [.int .i64 0,.int .i64 0,.int .i64 0,.int .i64 0,.int .i64 0,.int .i64 0,.int .i64 0,.int .i64 0,.int .i64 0,.int .i64 0,.int .i64 0,.int .i64 0,.int .i64 0,.int .i64 0,.int .i64 0,.int .i64 0,.int .i64 0,.int .i64 0,.int .i64 0,.int .i64 0,.int .i64 0,.int .i64 0,.int .i64 0,.int .i64 0,.int .i64 0,.int .i64 0,.int .i64 0,.int .i64 0,.int .i64 0,.int .i64 0,.int .i64 0,.int .i64 0,.int .i64 0,.int .i64 0,.int .i64 0,.int .i64 0,.int .i64 0,.int .i64 0,.int .i64 0,.int .i64 0,.int .i64 0,.int .i64 0,.int .i64 0,.int .i64 0,.int .i64 0,.int .i64 0,.int .i64 0,.int .i64 0,.int .i64 0,.int .i64 0,.int .i64 0,.int .i64 0,.int .i64 0,.int .i64 0,.int .i64 0,.int .i64 0,.int .i64 0,.int .i64 0,.int .i64 0,.int .i64 0,.int .i64 0,.int .i64 0,.int .i64 0,.int .i64 0,.int .i64 0,.int .i64 0,.int .i64 0,.int .i64 0,.int .i64 0,.int .i64 0,.int .i64 0,.int .i64 0,.int .i64 0,.int .i64 0,.int .i64 0,.int .i64 0,.int .i64 0,.int .i64 0,.int .i64 0,.int .i64 0,.int .i64 0,.int .i64 0,.int .i64 0,.int .i64 0,.int .i64 0,.int .i64 0,.int .i64 0,.int .i64 0,.int .i64 0,.int .i64 0,.int .i64 0,.int .i64 0,.int .i64 0,.int .i64 0,.int .i64 0,.int .i64 0,.int .i64 0,.int .i64 0,.int .i64 0,.int .i64 0,.int .i64 0,.int .i64 0,.int .i64 0,.int .i64 0,.int .i64 0,.int .i64 0,.int .i64 0,.int .i64 0,.int .i64 0,.int .i64 0,.int .i64 0,.int .i64 0,.int .i64 0,.int .i64 0,.int .i64 0,.int .i64 0,.int .i64 0,.int .i64 0,.int .i64 0,.int .i64 0,.int .i64 0,.int .i64 0,.int .i64 0,.int .i64 0,.int .i64 0,.int .i64 0,.int .i64 0,.int .i64 0,.int .i64 0,.int .i64 0,.int .i64 0,.int .i64 0,.int .i64 0,.int .i64 0,.int .i64 0,.int .i64 0,.int .i64 0,.int .i64 0,.int .i64 0,.int .i64 0,.int .i64 0,.int .i64 0,.int .i64 0,.int .i64 0,.int .i64 0,.int .i64 0,.int .i64 0,.int .i64 0,.int .i64 0,.int .i64 0,.int .i64 0,.int .i64 0,.int .i64 0,.int .i64 0,.int .i64 0,.int .i64 0,.int .i64 0,.int .i64 0,.int .i64 0,.int .i64 0,.int .i64 0,.int .i64 0,.int .i64 0,.int .i64 0,.int .i64 0,.int .i64 0,.int .i64 0,.int .i64 0,.int .i64 0,.int .i64 0,.int .i64 0,.int .i64 0,.int .i64 0,.int .i64 0,.int .i64 0,.int .i64 0,.int .i64 0,.int .i64 0,.int .i64 0,.int .i64 0,.int .i64 0,.int .i64 0,.int .i64 0,.int .i64 0,.int .i64 0,.int .i64 0,.int .i64 0,.int .i64 0,.int .i64 0,.int .i64 0,.int .i64 0,.int .i64 0,.int .i64 0,.int .i64 0,.int .i64 0,.int .i64 0,.int .i64 0,.int .i64 0,.int .i64 0,.int .i64 0,.int .i64 0,.int .i64 0,.int .i64 0,.int .i64 0,.int .i64 0,.int .i64 0,.int .i64 0,.int .i64 0,.int .i64 0,.int .i64 0,.int .i64 0,.int .i64 0,.int .i64 0,.int .i64 0,.int .i64 0,.int .i64 0,.int .i64 0,.int .i64 0,.int .i64 0,.int .i64 0,.int .i64 0,.int .i64 0,.int .i64 0,.int .i64 0,.int .i64 0,.int .i64 0,.int .i64 0,.int .i64 0,.int .i64 0,.int .i64 0,.int .i64 0,.int .i64 0,.int .i64 0,.int .i64 0,.int .i64 0,.int .i64 0,.int .i64 0,.int .i64 0,.int .i64 0,.int .i64 0,.int .i64 0,.int .i64 0,.int .i64 0,.int .i64 0,.int .i64 0,.int .i64 0,.int .i64 0,.int .i64 0,.int .i64 0,.int .i64 0,.int .i64 0,.int .i64 0,.int .i64 0,.int .i64 0,.int .i64 0,.int .i64 0]),
 (194,.sl 5 1 1 false [.int .u8 0]),
 (367,.sc (.pointer 374) 1 (.pointer none)),
 (138,.st 3 [(0,1,false),(1,1,false),(2,1,false)] [.nilIface,.slice none 0 0,.slice none 0 0]),
 (152,.sl 151 5 40 true [.int .i64 0,.int .i64 0,.string ⟨#[]⟩,.bool false,.bool false]),
 (219,.st 2 [(0,1,false),(1,1,false)] [.int .i64 0,.string ⟨#[]⟩]),
 (282,.sl 302 7 56 true [.int .i64 0,.int .i64 0,.int .i64 0,.int .i64 0,.int .i64 0,.int .i64 0,.bool false]),
 (129,.st 2 [(0,1,false),(1,1,false)] [.int .i64 0,.slice none 0 0]),
 (153,.sl 9 1 16 false [.string ⟨#[]⟩]),
 (231,.st 7 [(0,6,true),(6,1,false)] [.string ⟨#[]⟩,.slice none 0 0,.slice none 0 0,.slice none 0 0,.slice none 0 0,.int .i64 0,.int .i64 0]),
 (285,.st 3 [(0,1,false),(1,1,false),(2,1,false)] [.bool false,.bool false,.bool false]),
 (330,.sc (.func #[83,83] #[3] false) 1 (.nilFunc)),
 (270,.st 3 [(0,1,false),(1,1,false),(2,1,false)] [.int .i64 0,.string ⟨#[]⟩,.int .i64 0]),
 (5,.sc (.int .u8) 1 (.int .u8 0)),
 (227,.st 4 [(0,1,false),(1,1,false),(2,1,false),(3,1,false)] [.map none,.map none,.slice none 0 0,.int .i64 0]),
 (221,.sl 157 6 120 true [.string ⟨#[]⟩,.slice none 0 0,.slice none 0 0,.slice none 0 0,.slice none 0 0,.int .i64 0]),
 (225,.sl 231 7 128 true [.string ⟨#[]⟩,.slice none 0 0,.slice none 0 0,.slice none 0 0,.slice none 0 0,.int .i64 0,.int .i64 0]),
 (287,.sc (.map 3 285) 1 (.map none)),
 (294,.st 2 [(0,1,false),(1,1,false)] [.string ⟨#[]⟩,.int .i64 0]),
 (73,.st 2 [(0,1,false),(1,1,false)] [.int .i64 0,.int .i64 0]),
 (191,.sc (.int .u64) 1 (.int .u64 0)),
 (184,.sc (.pointer 39) 1 (.pointer none)),
 (154,.sl 294 2 24 true [.string ⟨#[]⟩,.int .i64 0]),
 (353,.sc (.int .u64) 1 (.int .u64 0)),
 (161,.st 5 [(0,5,true)] [.slice none 0 0,.slice none 0 0,.slice none 0 0,.slice none 0 0,.int .i64 0]),
 (155,.sl 270 3 32 true [.int .i64 0,.string ⟨#[]⟩,.int .i64 0]),
 (255,.sc (.int .u64) 1 (.int .u64 0)),
 (276,.sl 282 1 24 false [.slice none 0 0]),
 (278,.st 4 [(0,1,false),(1,1,false),(2,1,false),(3,1,false)] [.pointer none,.slice none 0 0,.slice none 0 0,.int .i64 0]),
 (302,.st 7 [(0,3,true),(3,4,true)] [.int .i64 0,.int .i64 0,.int .i64 0,.int .i64 0,.int .i64 0,.int .i64 0,.bool false]),
 (224,.sc (.map 9 3) 1 (.map none)),
 (275,.sc (.pointer 278) 1 (.pointer none)),
 (63,.sc (.pointer 138) 1 (.pointer none)),
 (127,.sc (.pointer 129) 1 (.pointer none)),
 (357,.sc (.pointer 3) 1 (.pointer none)),
 (223,.sc (.map 9 157) 1 (.map none)),
 (158,.sc (.pointer 161) 1 (.pointer none)),
 (263,.sl 221 1 24 false [.slice none 0 0]),
 (351,.sl 57 1 24 false [.slice none 0 0]),
 (334,.sc (.func #[57] #[57,28] false) 1 (.nilFunc)),
 (267,.sc (.map 3 274) 1 (.map none)),
 (222,.sc (.pointer 227) 1 (.pointer none)),
 (28,.sc (.int .i64) 1 (.int .i64 0)),
 (371,.sc (.func #[190] #[4] false) 1 (.nilFunc)),
 (65,.sc (.func #[63] #[28] false) 1 (.nilFunc)),
 (146,.sl 97 5 40 true [.int .i64 0,.int .i64 0,.int .i64 0,.int .i64 0,.int .i64 0]),
 (265,.sl 229 1 8 false [.nilFunc]),
 (21,.sc (.int .i32) 1 (.int .i32 0)),
 (319,.sc (.int .u32) 1 (.int .u32 0)),
 (250,.sc (.pointer 91) 1 (.pointer none)),
 (306,.sc (.func #[21] #[4] false) 1 (.nilFunc)),
 (122,.sc (.pointer 60) 1 (.pointer none)),
 (94,.sc (.pointer 78) 1 (.pointer none)),
 (280,.sc (.func #[91] #[4] false) 1 (.nilFunc)),
 (304,.sc (.func #[302] #[4] false) 1 (.nilFunc)),
 (332,.sc (.func #[83] #[4] false) 1 (.nilFunc)),
 (379,.sc (.func #[378,3,3] #[] false) 1 (.nilFunc)),
 (392,.sc (.func #[190,3] #[3] false) 1 (.nilFunc)),
 (229,.sc (.func #[157] #[28] false) 1 (.nilFunc)),
 (111,.sc (.pointer 41) 1 (.pointer none)),
 (126,.sc (.pointer 26) 1 (.pointer none)),
 (215,.sc (.func #[83,3] #[3] false) 1 (.nilFunc)),
 (233,.sc (.pointer 69) 1 (.pointer none)),
 (262,.sc (.func #[119,3] #[3] false) 1 (.nilFunc)),
 (308,.sc (.func #[143,3] #[3] false) 1 (.nilFunc)),
 (378,.sc (.pointer 177) 1 (.pointer none)),
 (395,.sc (.func #[177] #[4] false) 1 (.nilFunc)),
 (401,.sc (.func #[182] #[4] false) 1 (.nilFunc))]
theorem a0:TabOk Tryz.prog tab:=by
 unfold tab
 repeat (first|exact TabOk.nil _|refine TabOk.cons (by kernel_rfl) (by rfl) ?_)
section
variable {P:Program} {n:Nat} {ds:List Deferred} {E:Fr} {w:World} {Q:Exit->Act->World->Prop} {ops:Array Oper} {rest:List Oper} {d:Nat} {dst:Option Nat} {ty:TypeId} {pos:String} {after:Array Edge} {F:Nat->Prop} {w0:World} {Γ:List Asr} {T:Tab}
end
section
variable {P:Program} {n:Nat} {ds:List Deferred} {E:Fr} {w:World} {Q:Exit->Act->World->Prop} {ops:Array Oper} {S:World->Prop} {fuel:Nat} {li:Array Bool} {d:Nat} {op:Op} {ty:TypeId} {pos:String} {after:Array Edge} {F:Nat->Prop} {w0:World} {Γ:List Asr} {T:Tab}
def WA (P:Program) (ops:Array Oper) (Q:Exit->Act->World->Prop) (S:World->Prop) (fuel:Nat) (li:Array Bool) (n:Nat) (ds:List Deferred) (E:Fr) (w:World):Prop:=∀ a,Has n ds a E->wpAnyH P .any ops Q S fuel li a w
def WO (P:Program) (ops:Array Oper) (Q:Exit->Act->World->Prop) (S:World->Prop) (fuel:Nat) (li:Array Bool) (n:Nat) (ds:List Deferred) (E:Fr) (w:World) (i:Nat):Prop:=∀ a,Has n ds a E->wpOp P ops Q i (fun a' w'=>S w'/\wpAnyH P .any ops Q S fuel (li.setIfInBounds i true) a' w') a w
theorem b0D (S:World->Prop) {id:Nat} {l:List Oper} (m:Nat) (hl:l.length=m) (hS:St F w0 w Γ) (hm:P.follows .mixedOrders=true) (h:∀ w1,St F w0 w1 Γ->WA P l.toArray Q S m (Array.replicate m false) n ds E w1):WC P (.region id l.toArray true) Q n ds E w:=fun a ha=>by
 subst hl;exact wp_region_held (S:=S) hm (h { w with drawn:=w.drawn + 1 } (hS.grow ⟨rfl,rfl,rfl,xc4 _,fun _ _ _=>rfl⟩) a ha)
theorem a6E (hr:Region.ready .any ops li=[]) (h:WQ Q .normal n ds E w):WA P ops Q S fuel li n ds E w:=fun a ha=>wpAnyH_done hr (h a ha) fuel
theorem b0x {i:Nat} (_C:Nn i) {v:Value} (hT:TabOk P T) (hi:ops[i]?=some ⟨some d,op,ty,pos,after,none⟩) (hs:Region.noSelect ops=true) (hf:Region.free .any ops li i=true) (hr:(Region.ready .any ops li).contains i=true)
  (hQ:∀ c (a:Act) w,Q (.panic c) (a.put (some d) v) w->Q (.panic c) a w) (hS:S w) (hv:j9 T E op=some v) (hd:Nat.blt d n=true) (k:WA P ops Q S fuel (li.setIfInBounds i true) n ds ((d,v)::E) w):WA P ops Q S (fuel + 1) li n ds E w:=fun a ha=>
 wpAnyH_take hi hs hf hr hQ (xc6 ⟨rfl,fun w _=>t7 hT ha hv w⟩) hS (k _ (ha.put d v hd))
theorem a8R {i:Nat} (_C:Nn i) {t:TypeId} {x:Operand} {p:Addr} {v:Value} (hi:ops[i]?=some ⟨some d,.load t x,ty,pos,after,none⟩) (hs:Region.noSelect ops=true) (hf:Region.free .any ops li i=true) (hr:(Region.ready .any ops li).contains i=true)
  (hQ:∀ c (a:Act) w,Q (.panic c) (a.put (some d) v) w->Q (.panic c) a w) (hS:S w) (hx:E.ev x=some (.pointer (some p))) (hl:∀ w,S w->Ld P t p v w) (hd:Nat.blt d n=true) (k:WA P ops Q S fuel (li.setIfInBounds i true) n ds ((d,v)::E) w):WA P ops Q S (fuel + 1) li n ds E w:=fun a ha=>
 wpAnyH_take hi hs hf hr hQ (xc6 ⟨rfl,fun w hw=>by
  have h:=hl w hw;unfold Ld at h;simp only [execOp,ha.ev hx,Instr.loadAt,Instr.sureAddr,Sem.run_bind,Sem.run_pure,Result.andThen_ok,h]⟩) hS (k _ (ha.put d v hd))
theorem a5f {i:Nat} (hr:Region.ready .any ops li=[i]) (h:WO P ops Q S fuel li n ds E w i):WA P ops Q S (fuel + 1) li n ds E w:=fun a ha=>
 wpAnyH_all hr (by simp) (fun j hj=>by
  have:j=i:=by simpa using hj
  subst this;exact h a ha)
theorem b1c {i j:Nat} (hr:Region.ready .any ops li=[i,j]) (h1:WO P ops Q S fuel li n ds E w i) (h2:WO P ops Q S fuel li n ds E w j):WA P ops Q S (fuel + 1) li n ds E w:=fun a ha=>
 wpAnyH_all hr (by simp) (fun k hk=>by
  have:k=i\/k=j:=by simpa using hk
  rcases this with rfl|rfl
  ·exact h1 a ha
  ·exact h2 a ha)
theorem a29 {i:Nat} {Φ:Value->World->Prop} (hi:ops[i]?=some ⟨some d,op,ty,pos,after,none⟩) (h:Gets P ⟨some d,op,ty,pos,after,none⟩ n ds E w Φ) (hd:Nat.blt d n=true) (k:∀ v w',Φ v w'->S w'/\WA P ops Q S fuel (li.setIfInBounds i true) n ds ((d,v)::E) w'):WO P ops Q S fuel li n ds E w i:=fun a ha=>by
 unfold wpOp;simp only [hi];rw [xd6 (show Region.wanted _ _=true from rfl)];exact xc6 (h a ha _ _ fun v w' hv=>⟨(k v w' hv).1,(k v w' hv).2 _ (ha.put d v hd)⟩)
theorem a5h {i:Nat} {Φ:Value->World->Prop} (hi:ops[i]?=some ⟨none,op,ty,pos,after,none⟩) (h:Gets P ⟨none,op,ty,pos,after,none⟩ n ds E w Φ) (k:∀ v w',Φ v w'->S w'/\WA P ops Q S fuel (li.setIfInBounds i true) n ds E w'):WO P ops Q S fuel li n ds E w i:=fun a ha=>by
 unfold wpOp;simp only [hi];rw [xd6 (show Region.wanted _ _=true from rfl)];exact xc6 (h a ha _ _ fun v w' hv=>⟨(k v w' hv).1,(k v w' hv).2 _ ha⟩)
end
def RP (c:List PanicEntry) (Φ:Value->World->Prop) (Ψ:World->Prop) (e:Ending) (w':World):Prop:=(∃ v,e=.returned v/\Φ v w')\/(e=.panicked c/\Ψ w')
structure FnP (P:Program) (f:FuncId) (args:List Value) (w:World) (c:List PanicEntry) (Φ:Value->World->Prop) (Ψ:World->Prop):Prop where
 ok:∃ fn,j8 P f fn
 calls:Calls P f args.toArray w (RP c Φ Ψ)
section
variable {P:Program} {n:Nat} {ds:List Deferred} {E:Fr} {w:World} {Q:Exit->Act->World->Prop} {ops:Array Oper} {rest:List Oper} {d:Nat} {dst:Option Nat} {op:Op} {ty:TypeId} {pos:String} {after:Array Edge} {T:Tab} {c:List PanicEntry}
theorem FnP.mono {f:FuncId} {args:List Value} {Φ Φ':Value->World->Prop} {Ψ Ψ':World->Prop} (h:FnP P f args w c Φ Ψ) (h1:∀ v w',Φ v w'->Φ' v w') (h2:∀ w',Ψ w'->Ψ' w'):FnP P f args w c Φ' Ψ' :=
 ⟨h.ok,h.calls.mono fun _ _ h=>by
  rcases h with ⟨v,e,hv⟩|⟨e,hw⟩
  ·exact xc6 ⟨v,e,h1 v _ hv⟩
  ·exact xc3 ⟨e,h2 _ hw⟩⟩
end
section
variable {P:Program} {n:Nat} {E:Fr} {w:World} {c:List PanicEntry} {fn:Func} {Φ:Value->World->Prop} {Ψ:World->Prop} {v v1 v2:Value}
end
section
variable {P:Program} {n:Nat} {ds:List Deferred} {E:Fr} {w:World} {Q:Exit->Act->World->Prop} {ops:Array Oper} {rest:List Oper} {d:Nat} {dst:Option Nat} {op:Op} {ty:TypeId} {pos:String} {after:Array Edge} {T:Tab}
theorem a32 (l:List UInt8) (a b:Nat):(⟨l.toArray⟩:ByteArray).extract a b=⟨((l.drop a).take (b - a)).toArray⟩:=ByteArray.extract_mk l a b
end
section
variable {P:Program} {n:Nat} {E:Fr} {w:World} {fn:Func} {Φ:Value->World->Prop}
end
section
variable {P:Program} {ops:Array Oper} {Q:Exit->Act->World->Prop} {S:World->Prop} {q:Nat}
end
section
variable {P:Program} {n:Nat} {ds:List Deferred} {E:Fr} {w:World} {Q:Exit->Act->World->Prop} {ops:Array Oper} {S:World->Prop} {q fuel:Nat} {li:Array Bool} {d:Nat} {op:Op} {ty:TypeId} {pos:String} {after:Array Edge} {F:Nat->Prop} {w0:World} {Γ:List Asr} {T:Tab} {c:List PanicEntry}
def t2 (ops:Array Oper) (q i:Nat):Bool:=match ops[q]? with
 |some o=>o.after.toList.any (fun e=>Region.binds .any e && Nat.beq e.on i)
 |none=>false
theorem a7x {q i:Nat} (h:t2 ops q i=true):∃ oq,ops[q]?=some oq/\∃ e ∈ oq.after,Region.binds .any e=true/\e.on=i:=by
 unfold t2 at h
 split at h
 ·rename_i o ho;obtain ⟨e,he,h2⟩:=xh6.1 h;simp only [xb6] at h2;exact ⟨o,ho,e,by simpa using he,h2.1,xa8 h2.2⟩
 ·cases h
end
inductive Dn:Prop->Prop->Prop where
 |a {P:Program} {n:Nat} {ds:List Deferred} {E:Fr} {w:World} {Q:Exit->Act->World->Prop} {x y:Code}:Dn (WC P (.seq x y) Q n ds E w) (WC P x (Exit.then (y.wp P Q) Q) n ds E w)
 |b {P:Program} {n:Nat} {ds:List Deferred} {E:Fr} {w:World} {Q:Exit->Act->World->Prop} {i:Nat} {l:List Oper}:Dn (WC P (.region i l.toArray false) Q n ds E w) (WL P l.toArray Q l n ds E w)
 |c {P:Program} {n:Nat} {ds:List Deferred} {E:Fr} {w:World} {Q:Exit->Act->World->Prop} {ops:Array Oper}:Dn (WL P ops Q [] n ds E w) (WQ Q .normal n ds E w)
 |d {P:Program} {n:Nat} {ds:List Deferred} {E:Fr} {w:World} {Q:Exit->Act->World->Prop} {y:Code} {Q2:Exit->Act->World->Prop}:Dn (WQ (Exit.then (y.wp P Q2) Q) .normal n ds E w) (WC P y Q2 n ds E w)
 |e {P:Program} {n:Nat} {ds:List Deferred} {E:Fr} {w:World} {Q:Exit->Act->World->Prop}:Dn (WC P .skip Q n ds E w) (WQ Q .normal n ds E w)
 |f {P:Program} {n:Nat} {ds:List Deferred} {E:Fr} {w:World} {Q:Exit->Act->World->Prop} {i:Nat} {c:Code}:Dn (WC P (.block i c) Q n ds E w) (WC P c (Exit.inBlock i Q) n ds E w)
 |g {P:Program} {n:Nat} {ds:List Deferred} {E:Fr} {w:World} {Q:Exit->Act->World->Prop} {i:Nat}:Dn (WC P (.exit i) Q n ds E w) (WQ Q (.exit i) n ds E w)
 |h {P:Program} {n:Nat} {ds:List Deferred} {E:Fr} {w:World} {Q:Exit->Act->World->Prop}:Dn (WC P .ret Q n ds E w) (WQ Q .ret n ds E w)
 |i {n:Nat} {ds:List Deferred} {E:Fr} {w:World} {Q:Exit->Act->World->Prop} {N:Act->World->Prop} {k:Nat}:Dn (WQ (Exit.then N Q) (.exit k) n ds E w) (WQ Q (.exit k) n ds E w)
 |j {n:Nat} {ds:List Deferred} {E:Fr} {w:World} {Q:Exit->Act->World->Prop} {N:Act->World->Prop}:Dn (WQ (Exit.then N Q) .ret n ds E w) (WQ Q .ret n ds E w)
 |k {n:Nat} {ds:List Deferred} {E:Fr} {w:World} {Q:Exit->Act->World->Prop} {k:Nat}:Dn (WQ (Exit.inBlock k Q) .normal n ds E w) (WQ Q .normal n ds E w)
 |l {n:Nat} {ds:List Deferred} {E:Fr} {w:World} {Q:Exit->Act->World->Prop} {k:Nat}:Dn (WQ (Exit.inBlock k Q) .ret n ds E w) (WQ Q .ret n ds E w)
 |m {n:Nat} {ds:List Deferred} {E:Fr} {w:World} {Q:Exit->Act->World->Prop} {k:Nat}:Dn (WQ (Exit.inBlock k Q) (.exit k) n ds E w) (WQ Q .normal n ds E w)
theorem yDn {p q:Prop} (h:Dn p q) (k:q):p:=by
 cases h with
 |a=>exact b1f k
 |b=>exact a6z k
 |c=>exact b1j k
 |d=>exact b0M k
 |e=>exact a9Z k
 |f=>exact a8B k
 |g=>exact a94 k
 |h=>exact b1y k
 |i=>exact a3X k
 |j=>exact a45 k
 |k=>exact a8r k
 |l=>exact a3B k
 |m=>exact a28 k
theorem Fr.sub_of {F G:Fr} (h:G.map (fun p=>F.get p.1)=G.map fun p=>some p.2):Fr.sub G F:=fun p hp=>by
 obtain ⟨i,hi⟩:=xc8.1 hp;have h2:=congrArg (fun l=>l[i]?) h;simp only [xf7,hi,xf8,Option.some.injEq] at h2;exact h2
theorem ck4 {a b c d:Bool} (h:(a && (b && (c && !d)))=true):a=true/\b=true/\c=true/\d=false:=by
 revert h
 cases a <;> cases b <;> cases c <;> cases d <;> simp
section
variable {P:Program} {n:Nat} {ds:List Deferred} {E:Fr} {w:World} {Q:Exit->Act->World->Prop} {ops:Array Oper} {rest:List Oper} {d:Nat} {ty:TypeId} {pos:String} {after:Array Edge} {F:Nat->Prop} {w0:World} {Γ Γ':List Asr} {T:Tab}
def b1K:Op->Bool
 |.binOp .add ..|.binOp .sub ..|.binOp .mul ..=>true
 |_=>false
theorem a4 (hT:TabOk P T) {op:Op} {v:Value} (_ho:b1K op=false) (h:j9 T E op=some v) (hd:Nat.blt d n=true) (k:WL P ops Q rest n ds ((d,v)::E) w):WL P ops Q (⟨some d,op,ty,pos,after,none⟩::rest) n ds E w:=a14 hT h hd k
theorem a8j {f:FuncId} {x:Operand} {args:Array Operand} {ats:Array TypeId} {vs:List Value} {first caps:List Value} (hx:E.ev x=some (.func (.func f) first.toArray caps.toArray)) (hv:E.evs args.toList=some vs) (hd:Nat.blt d n=true) (k:∃ Φ,Fn P f (first++vs++caps) w Φ/\∀ v w',Φ v w'->WL P ops Q rest n ds ((d,v)::E) w') :
  WL P ops Q (⟨some d,.call { callee:=.value x,args:=args,argTypes:=ats },ty,pos,after,none⟩::rest) n ds E w:=k.elim fun _ h=>a7N hx hv h.1 hd h.2
theorem d5 {f:FuncId} {x:Operand} {args:Array Operand} {ats:Array TypeId} {vs:List Value} {first caps:List Value} (hS:St F w0 w Γ) (hx:E.ev x=some (.func (.func f) first.toArray caps.toArray)) (hv:E.evs args.toList=some vs) (hd:Nat.blt d n=true) (k:∃ v,Fn P f (first++vs++caps) w (RBf v w)/\∀ w',St F w0 w' Γ->WL P ops Q rest n ds ((d,v)::E) w') :
  WL P ops Q (⟨some d,.call { callee:=.value x,args:=args,argTypes:=ats },ty,pos,after,none⟩::rest) n ds E w:=k.elim fun _ h=>a7N hx hv h.1 hd (by rintro _ w' ⟨rfl,h2⟩;exact h.2 w' (hS.trans h2))
theorem i7 {K:Act->Prop} {f:FuncId} {x:Operand} {args:Array Operand} {ats:Array TypeId} {vs:List Value} {first caps:List Value} (hx:E.ev x=some (.func (.func f) first.toArray caps.toArray)) (hv:E.evs args.toList=some vs) (hd:Nat.blt d n=true)
  (k:∃ v,(∀ w,St F w0 w Γ->Fn P f (first++vs++caps) w (RBf v w))/\WD P ops (fun w'=>St F w0 w' Γ) K rest n ds ((d,v)::E)):WD P ops (fun w'=>St F w0 w' Γ) K (⟨some d,.call { callee:=.value x,args:=args,argTypes:=ats },ty,pos,after,none⟩::rest) n ds E:=k.elim fun _ h=>a93 hx hv h.1 hd h.2
theorem a0y (hT:TabOk P T) {t:TypeId} {x:Operand} {g kk s:Nat} {fs:List (Nat×Nat×Bool)} {z:List Value} (hx:E.ev x=some (.pointer (some ⟨g,kk,none⟩))) (ht:T.get t=some (.st s fs z)) (hd:Nat.blt d n=true) (k:∃ L:List Value,w.rangeAt g kk L/\L.length=s/\WL P ops Q rest n ds ((d,.agg L.toArray)::E) w):WL P ops Q (⟨some d,.load t x,ty,pos,after,none⟩::rest) n ds E w:=k.elim fun _ h=>a5 hx (Ld.st hT ht h.1 h.2.1) hd h.2.2
end
section
variable {P:Program} {n:Nat} {ds:List Deferred} {E:Fr} {w:World} {Q:Exit->Act->World->Prop} {ops:Array Oper} {S:World->Prop} {q fuel:Nat} {li:Array Bool} {d:Nat} {op:Op} {ty:TypeId} {pos:String} {after:Array Edge} {T:Tab}
theorem o9 {i:Nat} (C:Nn i) {v:Value} (hT:TabOk P T) (hi:ops[i]?=some ⟨some d,op,ty,pos,after,none⟩) (hc:(Region.noSelect ops && (Region.free .any ops li i && ((Region.ready .any ops li).contains i && !false)))=true)
  (hQ:∀ c (a:Act) w,Q (.panic c) (a.put (some d) v) w->Q (.panic c) a w) (hS:S w) (hv:j9 T E op=some v) (hd:Nat.blt d n=true) (k:WA P ops Q S fuel (li.setIfInBounds i true) n ds ((d,v)::E) w):WA P ops Q S (fuel + 1) li n ds E w :=
 b0x C hT hi (ck4 hc).1 (ck4 hc).2.1 (ck4 hc).2.2.1 hQ hS hv hd k
theorem a17 {i:Nat} (C:Nn i) {t:TypeId} {x:Operand} {p:Addr} {v:Value} (hi:ops[i]?=some ⟨some d,.load t x,ty,pos,after,none⟩) (hc:(Region.noSelect ops && (Region.free .any ops li i && ((Region.ready .any ops li).contains i && !false)))=true)
  (hQ:∀ c (a:Act) w,Q (.panic c) (a.put (some d) v) w->Q (.panic c) a w) (hS:S w) (hx:E.ev x=some (.pointer (some p))) (hl:∀ w,S w->Ld P t p v w) (hd:Nat.blt d n=true) (k:WA P ops Q S fuel (li.setIfInBounds i true) n ds ((d,v)::E) w):WA P ops Q S (fuel + 1) li n ds E w :=
 a8R C hi (ck4 hc).1 (ck4 hc).2.1 (ck4 hc).2.2.1 hQ hS hx hl hd k
end
theorem yEn {P : Program} {f : FuncId} {fn : Func} {c : Code} {args : List Value} {w : World} {Φ : Value -> World -> Prop} {m : Nat} (h1 : P.funcs[f]? = some fn) (hm : fn.ntmps = m) (h2 : (fn.name == "runtime.NumGoroutine") = false) (h3 : fn.body.isNone = false) (hb : fn.body = some c) (hl : Nat.ble args.length m = true) (h : WC P c (bodyPost P fn (fun e w' => ∃ v, e = .returned v /\ Φ v w')) m [] (a1H 0 args) w) : Fn P f args w Φ := a6L ⟨h1, h2, h3⟩ hb hm hl h
def a7U (E:Fr):List ResultVar->Option (List Value)
 |[]=>some []
 |.tmp t::r=>match E.get t,a7U E r with
  |some v,some vs=>some (v::vs)
  |_,_=>none
 |.cell _ _::_=>none
theorem a3h {P:Program} {E:Fr} {w:World}:∀ {rs:List ResultVar} {vs:List Value},a7U E rs=some vs->ResL P E w rs vs
 |[],vs,h=>by cases h;exact .nil
 |.tmp t::r,vs,h=>by
  simp only [a7U] at h
  split at h
  ·rename_i v us h1 h2
   cases h
   exact .tmp h1 (a3h h2)
  ·cases h
 |.cell _ _::_,_,h=>by cases h
section
variable {P:Program} {n:Nat} {E:Fr} {w:World} {fn:Func} {Φ:Value->World->Prop} {v v1 v2 v3 v4:Value}
theorem i2 (h:a7U E fn.results.toList=some [v]) (hΦ:Φ v w):WQ (bodyPost P fn (fun e w'=>∃ v,e=.returned v/\Φ v w')) .ret n [] E w:=b0z (a3h h) hΦ
theorem a1O (h:a7U E fn.results.toList=some [v1,v2]) (hΦ:Φ (.tuple #[v1,v2]) w):WQ (bodyPost P fn (fun e w'=>∃ v,e=.returned v/\Φ v w')) .ret n [] E w:=b0S (a3h h) hΦ
end
theorem a9l {L:List Ar}:∀ {e:Int},j0 e L->∀ (i:Nat) (a:Ar),L[i]?=some a->a.ok:=by
 induction L with
 |nil=>intro e _ i a h;simp at h
 |cons b L ih=>
  intro e h i a ha
  cases i with
  |zero=>simp at ha;subst ha;exact h.1
  |succ i=>exact ih h.2.2 i a (by simpa using ha)
def RowsApart (v u:Value):Prop:=v.ownBlock=none\/v.ownBlock≠u.ownBlock
theorem RowsApart.symm {v u:Value} (h:RowsApart v u):RowsApart u v:=by
 unfold RowsApart at *
 cases hv:v.ownBlock <;> cases hu:u.ownBlock <;> simp_all
 omega
theorem SlAr.below {w w':World} {v:Value} {L:List Ar} (h:SlAr w v L) (hb:Below w.heap.size w w'):SlAr w' v L:=by
 rcases h with h|⟨b,off,cap,rfl,h2,h3,h4,h5⟩
 ·exact xc6 h
 ·exact xc3 ⟨b,off,cap,rfl,xa6 h2 hb.size,h3,h4,fun i a ha=>(h5 i a ha).grown hb h2⟩
def a1P (a:Ar) (page:Int):Int:=if wrap64 a.fin<=page then -1 else 1
theorem a5p (a:Ar) (page:Int) (w:World):Calls Tryz.prog 147 #[.agg (arC a).toArray,.int .i64 page] w (RB (.int .i64 (a1P a page)) w):=by
 have HE:=hid (fun w=>a3a a w);have HC:Hid (a1P a page=if wrap64 a.fin<=page then -1 else 1):=hid rfl;generalize wrap64 a.fin=f at *;unfold arC at *;by_cases h:f<=page
 ·go_enter Tryz.func147,Tryz.ntmps147
  go_wp2_with (first|go_at_call 144;(with_reducible refine (HE.out _).mono ?_);rintro e w1 ⟨rfl,hb1⟩)
  go_ret
  exact ⟨j7 (by rw [HC.out,xd6 h]),(by repeat (first|with_reducible exact Below.refl _ _|with_reducible refine Below.alloc ?_ (by (omega)) _|refine bt ?_ (by with_reducible assumption)))⟩
 ·go_enter Tryz.func147,Tryz.ntmps147
  go_wp2_with (first|go_at_call 144;(with_reducible refine (HE.out _).mono ?_);rintro e w1 ⟨rfl,hb1⟩)
  go_ret
  exact ⟨j7 (by rw [HC.out,xd7 (by omega)]),(by repeat (first|with_reducible exact Below.refl _ _|with_reducible refine Below.alloc ?_ (by (omega)) _|refine bt ?_ (by with_reducible assumption)))⟩
theorem a9S (a:Ar) (page:Int):(a1P a page == 0)=false:=by unfold a1P;split <;> decide
theorem a7L {a:Ar} {page:Int}:a1P a page < 0 ↔ wrap64 a.fin<=page:=by unfold a1P;split <;> omega
theorem a18 {L:List Ar} (h:a1d L):∀ {j k:Nat} {a b:Ar},j < k->L[j]?=some a->L[k]?=some b->a.fin<=b.pg:=by
 have ok:=(a0x L).1 h;intro j k
 induction k with
 |zero=>intro a b hj;omega
 |succ k ih=>
  intro a b hj ha hb;obtain ⟨hk,_⟩:=xa5.1 hb;obtain ⟨c,hc⟩:∃ c,L[k]?=some c:=⟨L[k],by simp⟩;have h1:=((a26 hb hc).1 (ok (k + 1) hk)).2.1;rcases xg8.1 hj with h2|h2
  ·have h3:=ih h2 ha hc;have h4:=t3 h k c hc;unfold Ar.ok at h4;unfold Ar.fin at *;omega
  ·subst h2;rw [ha] at hc;cases hc;exact h1
def a0S (L:List Ar) (page:Int) (i j:Nat):Prop:=a1d L->(∀ (t:Nat) (a:Ar),t < i->L[t]?=some a->a.fin<=page)/\(∀ (t:Nat) (a:Ar),j<=t->L[t]?=some a->page < a.fin)
theorem a3G (L:List Ar) (page:Int):a0S L page 0 L.length:=fun _=>⟨fun t a h=>by omega,fun t a h ha=>by obtain ⟨h2,_⟩:=xa5.1 ha;omega⟩
theorem a9b {L:List Ar} {page:Int} {i j h:Nat} {a:Ar} (hI:a0S L page i j) (ha:L[h]?=some a) (hc:a1P a page < 0):a0S L page (h + 1) j:=fun hg=>by
 have hok:=t3 hg h a ha;rw [a7L,a0G hok] at hc;refine ⟨fun t b ht hb=>?_,(hI hg).2⟩;rcases xg8.1 ht with h1|h1
 ·have:=a18 hg h1 hb ha;have hb':=t3 hg t b hb;unfold Ar.ok at hok;unfold Ar.fin at *;omega
 ·subst h1;rw [ha] at hb;cases hb;exact hc
theorem a7A {L:List Ar} {page:Int} {i j h:Nat} {a:Ar} (hI:a0S L page i j) (ha:L[h]?=some a) (hc:¬ a1P a page < 0):a0S L page i h:=fun hg=>by
 have hok:=t3 hg h a ha;rw [a7L,a0G hok] at hc;refine ⟨(hI hg).1,fun t b ht hb=>?_⟩;rcases Nat.lt_or_eq_of_le ht with h1|h1
 ·have:=a18 hg h1 ha hb;have hb':=t3 hg t b hb;unfold Ar.ok at hb';unfold Ar.fin at *;omega
 ·subst h1;rw [ha] at hb;cases hb;omega
def a4I (L:List Ar) (page:Int) (w:World) (e:Ending) (w':World):Prop:=∃ i:Nat,i<=L.length/\e=.returned (.tuple #[.int .i64 i,.bool false])/\Below w.heap.size w w'/\a0S L page i i
theorem a7a (i j n:Nat) (hi:i<=n) (hj:j<=n) (h:n<=9223372036854775807):IntKind.u64.wrap (wrap64 ((i:Int) + j))=(i:Int) + j:=by
 rw [IntKind.wrap_u64];unfold wrap64;omega
theorem a5X (i j n:Nat) (hi:i<=n) (hj:j<=n) (h:n<=9223372036854775807):IntKind.u64.wrap ((i:Int) + j)=(i:Int) + j:=by
 rw [IntKind.wrap_u64];omega
theorem a6d (h n:Nat) (h1:h < n) (h2:n<=9223372036854775807):wrap64 ((h:Int) + 1)=(h:Int) + 1:=by unfold wrap64;omega
theorem a5d {n cap:Nat} (h:n<=cap) (hm:cap<=maxLen):n<=9223372036854775807:=xc5 h hm
theorem ms1 {i j h:Nat} (h1:i<=h) (h2:h < j):(j:Int).toNat - ((h:Int) + 1).toNat < (j:Int).toNat - (i:Int).toNat:=by omega
theorem ms2 {i j h:Nat} (h1:i<=h) (h2:h < j):(h:Int).toNat - (i:Int).toNat < (j:Int).toNat - (i:Int).toNat:=by omega
theorem a5G (i j n:Nat) (hi:i<=n) (hj:j<=n) (h:n<=9223372036854775807):wrap64 (((i:Int) + j) / 2)=((i + j) / 2:Nat):=by
 unfold wrap64;omega
theorem a9Q {L:List Ar} {w:World} (b off cap:Nat) (page:Int) (hbl:b < w.heap.size) (hcap:L.length<=cap) (hmax:cap<=maxLen) (d9:∀ i a,L[i]?=some a->CellsAr w b (off + i * 4) a) :
  Calls Tryz.prog 146 #[.slice (some ⟨b,off,none⟩) L.length cap,.int .i64 page,.func (.func 147) #[] #[]] w (a4I L page w):=by
 have hlen:=a5d hcap hmax;clear hmax hcap;have HLEN:=hid hlen;clear hlen;have HL:=hid d9;have HI:=hid (a3G L page);clear d9
 go_enter Tryz.func146,Tryz.ntmps146
 go_wp2
 go_loopw [9,10] (fun vi vj wr=>∃ i j:Nat,i<=j/\j<=L.length/\vi=.int .i64 i/\vj=.int .i64 j/\Below w.heap.size w wr/\Hid (a0S L page i j)) (fun vi vj _=>(intOf vj).toNat - (intOf vi).toNat)
 case atStart=>exact ⟨0,L.length,by omega,by omega,rfl,rfl,Below.refl _ _,HI.out⟩
 case round=>
  clear HI;obtain ⟨i,j,hij,hj,rfl,rfl,hb,HI⟩:=hrel;by_cases hlt:i < j
  ·obtain ⟨h,hh⟩:∃ h,h=(i + j) / 2:=⟨_,rfl⟩;have hhj:h < j:=by omega
   have hih:i<=h:=by omega
   obtain ⟨a,ha⟩:∃ a,L[h]?=some a:=⟨L[h]'(by omega),by simp⟩;obtain ⟨c0,c1,c2,c3⟩:=(HL.out h a ha).grown hb hbl;have hbr:=z9 (xa6 hbl hb.size);have hsz:=hb.size;have hq0:=a5X i j L.length (xc5 hij hj) hj HLEN.out;have hq1:=a7a i j L.length (xc5 hij hj) hj HLEN.out;have hq2:=a5G i j L.length (xc5 hij hj) hj HLEN.out;rw [<- hh] at hq2;have HC:=hid (fun w=>a5p a page w);unfold arC at HC;have hw1:wrap64 ((h:Int) + 1)=(h:Int) + 1:=a6d h L.length (xa6 hhj hj) HLEN.out;have hlh:(h:Int) < L.length:=Int.ofNat_lt.2 (xa6 hhj hj);clear hh
   go_upto_region 5 with fail
   rw [hq2];clear hq0 hq1 hq2;by_cases hc:a1P a page < 0
   ·have HX:=hid (a9b HI.out ha hc);generalize a1P a page=cv at *
    go_wp2_with (first|go_at_call 147;(with_reducible refine (HC.out _).mono ?_);rintro e w1 ⟨rfl,hb1⟩)
    go_roundw
    case rel=>exact ⟨h + 1,j,Nat.succ_le_of_lt hhj,hj,by rw [hw1];rfl,rfl,(by repeat (first|with_reducible assumption|refine bt ?_ (by with_reducible assumption))),HX.out⟩
    case measure=>(rw [hw1];exact ms1 hih hhj)
   ·have HX:=hid (a7A HI.out ha hc);generalize a1P a page=cv at *
    go_wp2_with (first|go_at_call 147;(with_reducible refine (HC.out _).mono ?_);rintro e w1 ⟨rfl,hb1⟩)
    go_roundw
    case rel=>exact ⟨i,h,hih,Nat.le_of_lt (xa6 hhj hj),rfl,rfl,(by repeat (first|with_reducible assumption|refine bt ?_ (by with_reducible assumption))),HX.out⟩
    case measure=>exact ms2 hih hhj
  ·obtain rfl:i=j:=by omega
   by_cases hn:i < L.length
   ·obtain ⟨a,ha⟩:∃ a,L[i]?=some a:=⟨L[i],by simp [hn]⟩;obtain ⟨c0,c1,c2,c3⟩:=(HL.out i a ha).grown hb hbl;have hbr:=z9 (xa6 hbl hb.size);have hsz:=hb.size;have HC:=hid (fun w=>a5p a page w);have hz:=a9S a page;unfold arC at HC;generalize a1P a page=cv at *
    go_wp2_with (first|go_at_call 147;(with_reducible refine (HC.out _).mono ?_);rintro e w1 ⟨rfl,hb1⟩)
    go_ret2
    exact ⟨i,hj,rfl,(by repeat (first|with_reducible assumption|refine bt ?_ (by with_reducible assumption))),HI.out⟩
   ·go_wp2
    go_ret2
    exact ⟨i,hj,rfl,(by repeat ((with_reducible assumption))),HI.out⟩
theorem a3t {va vb:Value} {A B:List Ar} {w:World} (ha:SlAr w va A) (hb:SlAr w vb B):Calls Tryz.prog 31 #[va,vb] w (RB (.bool (decide (A=B))) w):=by
 rcases ha with ⟨p,c,rfl,rfl⟩|⟨b1,off1,cap1,rfl,h2,h3,h4,h5⟩
 ·rcases hb with ⟨p2,c2,rfl,rfl⟩|⟨b2,off2,cap2,rfl,k2,k3,k4,k5⟩
  ·go_enter Tryz.func31,Tryz.ntmps31
   go_wp2
   go_loopw [5] (fun vi wr=>vi=.int .i64 0/\wr=w) (fun _ _=>0)
   case atStart=>exact ⟨rfl,rfl⟩
   case round=>
    obtain ⟨rfl,rfl⟩:=hrel
    go_wp2
    go_ret
    exact ⟨g9 (by simp),Below.refl _ _⟩
  ·cases B with
   |nil=>
    simp only [xa2]
    go_enter Tryz.func31,Tryz.ntmps31
    go_wp2
    go_loopw [5] (fun vi wr=>vi=.int .i64 0/\wr=w) (fun _ _=>0)
    case atStart=>exact ⟨rfl,rfl⟩
    case round=>
     obtain ⟨rfl,rfl⟩:=hrel
     go_wp2
     go_ret
     exact ⟨g9 (by simp),Below.refl _ _⟩
   |cons c B=>
    have hn:((0:Int) != ((c::B).length:Nat))=true:=by rw [xh7];simp;omega
    generalize hD:(c::B).length=n at *
    go_enter Tryz.func31,Tryz.ntmps31
    go_wp2
    go_ret
    exact ⟨g9 (by simp),Below.refl _ _⟩
 ·rcases hb with ⟨p2,c2,rfl,rfl⟩|⟨b2,off2,cap2,rfl,k2,k3,k4,k5⟩
  ·cases A with
   |nil=>
    simp only [xa2]
    go_enter Tryz.func31,Tryz.ntmps31
    go_wp2
    go_loopw [5] (fun vi wr=>vi=.int .i64 0/\wr=w) (fun _ _=>0)
    case atStart=>exact ⟨rfl,rfl⟩
    case round=>
     obtain ⟨rfl,rfl⟩:=hrel
     go_wp2
     go_ret
     exact ⟨g9 (by simp),Below.refl _ _⟩
   |cons c A=>
    have hn:(((c::A).length:Int) != 0)=true:=by rw [xh7];simp;omega
    generalize hD:(c::A).length=n at *
    go_enter Tryz.func31,Tryz.ntmps31
    go_wp2
    go_ret
    exact ⟨g9 (by simp),Below.refl _ _⟩
  ·by_cases hl:A.length=B.length
   ·exact a55 b1 off1 cap1 b2 off2 cap2 h2 k2 h5 k5 hl (a5d h3 h4)
   ·have HX:=hid (a9n hl);have hn:((A.length:Int) != B.length)=true:=by rw [xh7];omega
    clear hl h4 k4 h5 k5 h3 k3
    go_enter Tryz.func31,Tryz.ntmps31
    go_wp2
    go_ret
    exact ⟨g9 (xh3 HX.out).symm,Below.refl _ _⟩
theorem a0W (n lo hi:Int) (w:World):Calls Tryz.prog 38 #[.int .i64 n,.int .i64 lo,.int .i64 hi] w fun e w'=>e=.returned (.bool (decide (lo<=n/\n<=hi)))/\w=w':=by
 by_cases h1:lo<=n
 ·by_cases h2:n<=hi
  ·go_enter Tryz.func38,Tryz.ntmps38
   go_wp2
   go_ret
   exact ⟨g9 (by simp [h1,h2]),rfl⟩
  ·go_enter Tryz.func38,Tryz.ntmps38
   go_wp2
   go_ret
   exact ⟨g9 (by simp [h1,h2]),rfl⟩
 ·go_enter Tryz.func38,Tryz.ntmps38
  go_wp2
  go_ret
  exact ⟨g9 (by simp;omega),rfl⟩
theorem r9 {P:Program} {w:World} {ops:Array Oper} {rest:List Oper} {o:Oper} {a:Act} {Q:Exit->Act->World->Prop} (hw:Region.wanted o (yielded ops a.tmps)=true) (ty:TypeId) (x:Operand) (ho:o.op=.load ty x) (g:Nat) (L:List Value) (hx:a.eval x=.pointer (some ⟨g,0,none⟩)) (h:HoldL w g L) (d:TypeDesc)
  (hu:P.underlying ty=some d) (hd:(match d with|.struct _|.array _ _=>true|_=>false)=true) (hi:(P.info? ty).map (·.size)=some L.length)
  (next:wpList P ops Q rest (a.put o.dst (.agg L.toArray)) w):wpList P ops Q (o::rest) a w:=by
 obtain ⟨t,ht⟩:=h;unfold wpList;rw [xd6 hw];exact xc6 (wp_load_row ty x ho g hx t _ _ d ht hu hd (by simpa using hi) next)
theorem a3K {v:Value} {L:List Ar} {w:World} (h:SlAr w v L) (hok:∀ (i:Nat) (a:Ar),L[i]?=some a->a.ok) (hlen:L.length<=255):Calls Tryz.prog 99 #[v] w (s7 L w):=by
 rcases h with ⟨p,c,rfl,rfl⟩|⟨b,off,cap,rfl,h2,h3,h4,h5⟩
 ·exact a51 p c w
 ·exact a53 b off cap h2 h5 hok hlen
theorem a3F {L:List Ar} (hl:¬ 255 < L.length) (hr:¬ j0 1 L):b4 L=1:=by
 unfold b4;rw [xd7 hl,xd7 (fun g=>hr g.1)]
theorem a3W {L:List Ar} (hl:¬ 255 < L.length) (hr:j0 1 L):b4 L=if l0 (d6 L) 255=L then 0 else 1:=by
 unfold b4;rw [xd7 hl];by_cases h:a0r L
 ·rw [xd6 ⟨hr,h⟩,xd6 ((a1A hr).2 h)]
 ·rw [xd7 (fun g=>h g.2),xd7 (fun e=>h ((a1A hr).1 e))]
theorem a13 (p:Option Addr) (c:Nat) (w:World):Calls Tryz.prog 56 #[.slice p 0 c] w (RB (.int .i64 0) w):=by
 have hszb:(Tryz.prog.info? 203).map (·.size)=some 256:=by kernel_rfl
 have Hszb:=hid hszb;clear hszb;have hbw:=Below.refl w.heap.size w;obtain ⟨L,hL⟩:∃ L:List Ar,L=[]:=⟨_,rfl⟩;have HR:Hid (j0 1 L):=by rw [hL];exact trivial
 have HSL:Hid (SlAr w (.slice p 0 c) L):=xc6 ⟨_,_,rfl,hL⟩;have HBD:Hid (∀ w',Below w.heap.size w w'->Calls Tryz.prog 99 #[.slice p 0 c] w' (s7 L w')):=fun w' hb=>a3K (HSL.out.grown hb) (by rw [hL];intro i a h;simp at h) (by rw [hL];simp);unfold s7 at HBD;rw [xh4 HR.out] at HBD;have HAO:=hid (fun w'=>a1z (d6 L) (fun p=>a0X p HR.out) (m6 HR.out (by omega)) w');have HEQ:Hid (l0 (d6 L) 255=L):=hid (by rw [hL];exact a0C ⟨trivial,trivial⟩);clear hL
 go_enter Tryz.func56,Tryz.ntmps56
 go_wp2
 go_loopw [3] (fun vi wr=>vi=.int .i64 0/\w=wr) (fun _ _=>0)
 case atStart=>exact ⟨rfl,rfl⟩
 case round=>
  obtain ⟨rfl,rfl⟩:=hrel
  go_wp2_with (first|go_at_call 99;(with_reducible refine (HBD.out _ hbw).mono ?_);rintro e wc ⟨bd,rfl,hbc,hbd⟩;rw [hbd HR.out];clear hbd;have hbn:=bt hbw hbc;clear hbw hbc;have hbw:=hbn;clear hbn|(with_reducible refine l2 5 ?_);refine b8 rfl (some 5) rfl (bdC (fun _=>0)) 203 (by kernel_rfl) w.heap.size w hbw hbw.size ?_;intro g5 wn5 hL5 hB5 hbn hkn hnn;skip;clear hbw hkn hnn;have hbw:=hbn;clear hbn|(with_reducible refine j4 5 ?_);refine a6 rfl 203 (.tmp 5) (.tmp 48) rfl rfl g5 (bdC (d6 L)) (bdC (fun _=>0)) rfl rfl hL5 (by rw [Hszb.out,g8]) (by simp [g8]) (a0k _) w.heap.size w hbw hB5 ?_;intro wp5 hLn hbn hon;clear hL5 hbw hon;have hL5:=hLn;have hbw:=hbn;clear hLn hbn|(with_reducible refine l2 53 ?_);refine r9 rfl 203 (.tmp 5) rfl g5 (bdC (d6 L)) rfl hL5 _ Tryz.underlying203 rfl (by rw [Hszb.out,g8]) ?_|go_at_call 100;(with_reducible refine (HAO.out _).mono ?_);rintro e wa ⟨va,rfl,hsa,hba⟩;have hbn:=bt hbw hba;clear hbw hba;have hbw:=hbn;clear hbn)
  have HC:=a3t (a4E hsa) (HSL.out.grown hbw);rw [xh4 HEQ.out] at HC;have HC:=hid HC
  go_wp2_with (first|go_at_call 31;(with_reducible refine (HC.out).mono ?_);rintro e wz ⟨rfl,hbz⟩)
  go_ret
  exact ⟨j7 rfl,bt hbw hbz⟩
theorem a1K {L:List Ar} {w:World} (b off cap:Nat) (hbl:b < w.heap.size) (hcap:L.length<=cap) (hmax:cap<=maxLen) (d9:∀ i a,L[i]?=some a->CellsAr w b (off + i * 4) a) :
  Calls Tryz.prog 56 #[.slice (some ⟨b,off,none⟩) L.length cap] w (RB (.int .i64 (b4 L)) w):=by
 by_cases hm:255 < L.length
 ·have HC:=hid (a1F hm);clear hmax;generalize b4 L=r at *
  go_enter Tryz.func56,Tryz.ntmps56
  go_wp2
  go_ret
  exact ⟨j7 HC.out.symm,Below.refl _ _⟩
 have hszb:(Tryz.prog.info? 203).map (·.size)=some 256:=by kernel_rfl
 have Hszb:=hid hszb;clear hszb;have HSL:Hid (SlAr w (.slice (some ⟨b,off,none⟩) L.length cap) L):=xc3 ⟨b,off,cap,rfl,hbl,hcap,hmax,d9⟩;have HL:=hid d9;have hlen:L.length<=255:=by omega
 clear d9 hmax hcap;obtain ⟨r,hr⟩:∃ r,r=b4 L:=⟨_,rfl⟩;rw [<- hr];have HQ:=hid hr;clear hr
 go_enter Tryz.func56,Tryz.ntmps56
 go_wp2
 go_loopw [3] (fun vi wr=>∃ i:Nat,i<=L.length/\vi=.int .i64 i/\Below w.heap.size w wr/\Hid (∀ (j:Nat) (a:Ar),j < i->L[j]?=some a->a.ok)) (fun vi _=>L.length - (intOf vi).toNat)
 case atStart=>exact ⟨0,by omega,rfl,Below.refl _ _,fun j a hj=>by omega⟩
 case round=>
  obtain ⟨i,hi,rfl,hbw,HO⟩:=hrel;by_cases hlt:i < L.length
  ·obtain ⟨a,ha⟩:∃ a,L[i]?=some a:=⟨L[i],by simp [hlt]⟩;obtain ⟨c0,c1,c2,c3⟩:=(HL.out i a ha).grown hbw hbl;have hbr:=z9 (xa6 hbl hbw.size);have hsz:=hbw.size;have HW1:=hid (fun w=>a0W a.pg 1 255 w);have HW2:=hid (fun w=>a0W a.n 1 255 w);have HW4:=hid (fun w=>a0W a.prot 0 3 w);by_cases h1:1<=a.pg/\a.pg<=255
   ·rw [xh4 h1] at HW1;by_cases h2:1<=a.n/\a.n<=255
    ·rw [xh4 h2] at HW2;have hw1:wrap64 (a.pg + a.n)=a.pg + a.n:=i9 _ (by omega) (by omega);have hw2:wrap64 (a.pg + a.n - 1)=a.pg + a.n - 1:=i9 _ (by omega) (by omega);by_cases h3:255 < a.pg + a.n - 1
     ·have HX:=hid (a0w ha (fun h=>by unfold Ar.ok at h;omega));clear h1 h2
      go_wp2_with (first|go_at_call 38;(with_reducible refine (HW1.out _).mono ?_);rintro e w1 ⟨rfl,rfl⟩|go_at_call 38;(with_reducible refine (HW2.out _).mono ?_);rintro e w1 ⟨rfl,rfl⟩|go_at_call 38;(with_reducible refine (HW4.out _).mono ?_);rintro e w1 ⟨rfl,rfl⟩)
      go_ret
      exact ⟨j7 (by rw [HQ.out,q7 hm hlt HX.out]),(by repeat (first|with_reducible exact Below.refl _ _|with_reducible assumption|with_reducible refine Below.alloc ?_ (by first|omega|(simp;done)|(simp;omega)) _|with_reducible refine Below.setCell ?_ (by first|omega|(simp;done)|(simp;omega)) _|with_reducible refine Below.drew ?_|with_reducible refine bt ?_ (below_regrown _ _ _)|refine bt ?_ (by with_reducible assumption)))⟩
     ·by_cases h4:0<=a.prot/\a.prot<=3
      ·rw [xh4 h4] at HW4;have HX:Hid (a.ok):=hid (by unfold Ar.ok;omega);have HMS:=hid (ms5 hlt);have hws:wrap64 ((i:Int) + 1)=(i:Int) + 1:=i9 _ (by omega) (by omega);have h3':a.pg + a.n - 1<=255:=by omega
       clear h1 h2 h3 h4
       go_wp2_with (first|go_at_call 38;(with_reducible refine (HW1.out _).mono ?_);rintro e w1 ⟨rfl,rfl⟩|go_at_call 38;(with_reducible refine (HW2.out _).mono ?_);rintro e w1 ⟨rfl,rfl⟩|go_at_call 38;(with_reducible refine (HW4.out _).mono ?_);rintro e w1 ⟨rfl,rfl⟩)
       go_roundw
       case rel=>
        refine ⟨i + 1,hlt,by first|rfl|(rw [hws];rfl),(by repeat (first|with_reducible exact Below.refl _ _|with_reducible assumption|with_reducible refine Below.alloc ?_ (by first|omega|(simp;done)|(simp;omega)) _|with_reducible refine Below.setCell ?_ (by first|omega|(simp;done)|(simp;omega)) _|with_reducible refine Below.drew ?_|with_reducible refine bt ?_ (below_regrown _ _ _)|refine bt ?_ (by with_reducible assumption))),fun j x hj hx=>?_⟩;rcases xg8.1 hj with h|h
        ·exact HO.out j x h hx
        ·subst h;rw [ha] at hx;cases hx;exact HX.out
       case measure=>first|exact HMS.out|(rw [hws];exact HMS.out)
      ·rw [xh3 h4] at HW4;have HX:=hid (a0w ha (fun h=>by unfold Ar.ok at h;omega));have h3':a.pg + a.n - 1<=255:=by omega
       clear h1 h2 h3 h4
       go_wp2_with (first|go_at_call 38;(with_reducible refine (HW1.out _).mono ?_);rintro e w1 ⟨rfl,rfl⟩|go_at_call 38;(with_reducible refine (HW2.out _).mono ?_);rintro e w1 ⟨rfl,rfl⟩|go_at_call 38;(with_reducible refine (HW4.out _).mono ?_);rintro e w1 ⟨rfl,rfl⟩)
       go_ret
       exact ⟨j7 (by rw [HQ.out,q7 hm hlt HX.out]),(by repeat (first|with_reducible exact Below.refl _ _|with_reducible assumption|with_reducible refine Below.alloc ?_ (by first|omega|(simp;done)|(simp;omega)) _|with_reducible refine Below.setCell ?_ (by first|omega|(simp;done)|(simp;omega)) _|with_reducible refine Below.drew ?_|with_reducible refine bt ?_ (below_regrown _ _ _)|refine bt ?_ (by with_reducible assumption)))⟩
    ·rw [xh3 h2] at HW2;have HX:=hid (a0w ha (fun h=>by unfold Ar.ok at h;omega));clear h1 h2
     go_wp2_with (first|go_at_call 38;(with_reducible refine (HW1.out _).mono ?_);rintro e w1 ⟨rfl,rfl⟩|go_at_call 38;(with_reducible refine (HW2.out _).mono ?_);rintro e w1 ⟨rfl,rfl⟩|go_at_call 38;(with_reducible refine (HW4.out _).mono ?_);rintro e w1 ⟨rfl,rfl⟩)
     go_ret
     exact ⟨j7 (by rw [HQ.out,q7 hm hlt HX.out]),(by repeat (first|with_reducible exact Below.refl _ _|with_reducible assumption|with_reducible refine Below.alloc ?_ (by first|omega|(simp;done)|(simp;omega)) _|with_reducible refine Below.setCell ?_ (by first|omega|(simp;done)|(simp;omega)) _|with_reducible refine Below.drew ?_|with_reducible refine bt ?_ (below_regrown _ _ _)|refine bt ?_ (by with_reducible assumption)))⟩
   ·rw [xh3 h1] at HW1;have HX:=hid (a0w ha (fun h=>by unfold Ar.ok at h;omega));clear h1
    go_wp2_with (first|go_at_call 38;(with_reducible refine (HW1.out _).mono ?_);rintro e w1 ⟨rfl,rfl⟩|go_at_call 38;(with_reducible refine (HW2.out _).mono ?_);rintro e w1 ⟨rfl,rfl⟩|go_at_call 38;(with_reducible refine (HW4.out _).mono ?_);rintro e w1 ⟨rfl,rfl⟩)
    go_ret
    exact ⟨j7 (by rw [HQ.out,q7 hm hlt HX.out]),(by repeat (first|with_reducible exact Below.refl _ _|with_reducible assumption|with_reducible refine Below.alloc ?_ (by first|omega|(simp;done)|(simp;omega)) _|with_reducible refine Below.setCell ?_ (by first|omega|(simp;done)|(simp;omega)) _|with_reducible refine Below.drew ?_|with_reducible refine bt ?_ (below_regrown _ _ _)|refine bt ?_ (by with_reducible assumption)))⟩
  ·obtain rfl:i=L.length:=by omega
   have hok:∀ (j:Nat) (a:Ar),L[j]?=some a->a.ok:=fun j a hj=>HO.out j a (xa5.1 hj).1 hj;have HBD:Hid (∀ w',Below w.heap.size w w'->Calls Tryz.prog 99 #[.slice (some ⟨b,off,none⟩) L.length cap] w' (s7 L w')):=fun w' hb=>a3K (HSL.out.grown hb) hok hlen;unfold s7 at HBD;clear hok;by_cases hr:j0 1 L
   ·rw [xh4 hr] at HBD;have HR:=hid hr;have HAO:=hid (fun w'=>a1z (d6 L) (fun p=>a0X p hr) (m6 hr (by omega)) w');have hcs:=a3W hm hr;clear hr;by_cases he:l0 (d6 L) 255=L
    ·rw [xd6 he] at hcs;have HEQ:=hid he;have HCS:=hid hcs;clear he hcs
     go_wp2_with (first|go_at_call 99;(with_reducible refine (HBD.out _ hbw).mono ?_);rintro e wc ⟨bd,rfl,hbc,hbd⟩;rw [hbd HR.out];clear hbd;have hbn:=bt hbw hbc;clear hbw hbc;have hbw:=hbn;clear hbn|(with_reducible refine l2 5 ?_);refine b8 rfl (some 5) rfl (bdC (fun _=>0)) 203 (by kernel_rfl) w.heap.size w hbw hbw.size ?_;intro g5 wn5 hL5 hB5 hbn hkn hnn;skip;clear hbw hkn hnn;have hbw:=hbn;clear hbn|(with_reducible refine j4 5 ?_);refine a6 rfl 203 (.tmp 5) (.tmp 48) rfl rfl g5 (bdC (d6 L)) (bdC (fun _=>0)) rfl rfl hL5 (by rw [Hszb.out,g8]) (by simp [g8]) (a0k _) w.heap.size w hbw hB5 ?_;intro wp5 hLn hbn hon;clear hL5 hbw hon;have hL5:=hLn;have hbw:=hbn;clear hLn hbn|(with_reducible refine l2 53 ?_);refine r9 rfl 203 (.tmp 5) rfl g5 (bdC (d6 L)) rfl hL5 _ Tryz.underlying203 rfl (by rw [Hszb.out,g8]) ?_|go_at_call 100;(with_reducible refine (HAO.out _).mono ?_);rintro e wa ⟨va,rfl,hsa,hba⟩;have hbn:=bt hbw hba;clear hbw hba;have hbw:=hbn;clear hbn)
     have HC:=a3t (a4E hsa) (HSL.out.grown hbw);rw [xh4 HEQ.out] at HC;have HC:=hid HC
     go_wp2_with (first|go_at_call 31;(with_reducible refine (HC.out).mono ?_);rintro e wz ⟨rfl,hbz⟩)
     go_ret
     exact ⟨j7 (by rw [HQ.out,HCS.out]),bt hbw hbz⟩
    ·rw [xd7 he] at hcs;have HEQ:=hid he;have HCS:=hid hcs;clear he hcs
     go_wp2_with (first|go_at_call 99;(with_reducible refine (HBD.out _ hbw).mono ?_);rintro e wc ⟨bd,rfl,hbc,hbd⟩;rw [hbd HR.out];clear hbd;have hbn:=bt hbw hbc;clear hbw hbc;have hbw:=hbn;clear hbn|(with_reducible refine l2 5 ?_);refine b8 rfl (some 5) rfl (bdC (fun _=>0)) 203 (by kernel_rfl) w.heap.size w hbw hbw.size ?_;intro g5 wn5 hL5 hB5 hbn hkn hnn;skip;clear hbw hkn hnn;have hbw:=hbn;clear hbn|(with_reducible refine j4 5 ?_);refine a6 rfl 203 (.tmp 5) (.tmp 48) rfl rfl g5 (bdC (d6 L)) (bdC (fun _=>0)) rfl rfl hL5 (by rw [Hszb.out,g8]) (by simp [g8]) (a0k _) w.heap.size w hbw hB5 ?_;intro wp5 hLn hbn hon;clear hL5 hbw hon;have hL5:=hLn;have hbw:=hbn;clear hLn hbn|(with_reducible refine l2 53 ?_);refine r9 rfl 203 (.tmp 5) rfl g5 (bdC (d6 L)) rfl hL5 _ Tryz.underlying203 rfl (by rw [Hszb.out,g8]) ?_|go_at_call 100;(with_reducible refine (HAO.out _).mono ?_);rintro e wa ⟨va,rfl,hsa,hba⟩;have hbn:=bt hbw hba;clear hbw hba;have hbw:=hbn;clear hbn)
     have HC:=a3t (a4E hsa) (HSL.out.grown hbw);rw [xh3 HEQ.out] at HC;have HC:=hid HC
     go_wp2_with (first|go_at_call 31;(with_reducible refine (HC.out).mono ?_);rintro e wz ⟨rfl,hbz⟩)
     go_ret
     exact ⟨j7 (by rw [HQ.out,HCS.out]),bt hbw hbz⟩
   ·rw [xh3 hr] at HBD;have HX:Hid (r=1):=hid (by rw [HQ.out,a3F hm hr]);clear hr
    go_wp2_with (first|go_at_call 99;(with_reducible refine (HBD.out _ hbw).mono ?_);rintro e wc ⟨bd,rfl,hbc,hbd⟩;clear hbd;have hbn:=bt hbw hbc;clear hbw hbc;have hbw:=hbn;clear hbn|(with_reducible refine l2 5 ?_);refine b8 rfl (some 5) rfl (bdC (fun _=>0)) 203 (by kernel_rfl) w.heap.size w hbw hbw.size ?_;intro g5 wn5 hL5 hB5 hbn hkn hnn;skip;clear hbw hkn hnn;have hbw:=hbn;clear hbn|(with_reducible refine j4 5 ?_);refine a6 rfl 203 (.tmp 5) (.tmp 48) rfl rfl g5 (bdC bd) (bdC (fun _=>0)) rfl rfl hL5 (by rw [Hszb.out,g8]) (by simp [g8]) (a0k _) w.heap.size w hbw hB5 ?_;intro wp5 hLn hbn hon;clear hL5 hbw hon;have hL5:=hLn;have hbw:=hbn;clear hLn hbn)
    go_ret
    exact ⟨j7 HX.out.symm,hbw⟩
theorem a2B {v:Value} {L:List Ar} {w:World} (h:SlAr w v L):Calls Tryz.prog 56 #[v] w (RB (.int .i64 (b4 L)) w):=by
 rcases h with ⟨p,c,rfl,rfl⟩|⟨b,off,cap,rfl,h2,h3,h4,h5⟩
 ·exact a13 p c w
 ·exact a1K b off cap h2 h3 h4 h5
theorem x7 {w:World} {v:Value} {L:List Ar} (h:Sl nF w 4 v (L.map arC)):SlAr w v L:=by
 rcases h with ⟨p,c,rfl,h⟩|⟨b,off,cap,rfl,h3,h4,hr⟩
 ·exact xc6 ⟨_,_,rfl,by simpa using h⟩
 ·rw [xg7] at h3 |-;refine xc3 ⟨b,off,cap,rfl,hr.lt,h3,h4,fun i a ha=>?_⟩;have hk:(L.map arC)[i]?=some (arC a):=by simp [ha]
  exact ⟨hr.cells i _ hk 0 _ rfl,hr.cells i _ hk 1 _ rfl,hr.cells i _ hk 2 _ rfl,hr.cells i _ hk 3 _ rfl⟩
theorem a7t {v:Value} {L:List Ar} {w:World} (h:Sl nF w 4 v (L.map arC)):Fn Tryz.prog 112 [v] w (RBf (.int .i64 (b4 L)) w) :=
 Fn.of_rb ⟨Tryz.func112,by kernel_rfl,by kernel_rfl⟩ (a1a (x7 h))
theorem a5t {M:List Ar} (hok:∀ (i:Nat) (a:Ar),M[i]?=some a->a.ok) (i:Nat):0<=o5 (M.take i)/\o5 (M.take i)<=255 * (i:Int):=by
 induction i with
 |zero=>simp [o5]
 |succ i ih=>
  cases ha:M[i]? with
  |none=>
   have:M.length<=i:=by simpa using ha
   rw [xa0 (by omega)] at ih |-;omega
  |some a=>
   rw [a0H ha];have:=hok i a ha;unfold Ar.ok at this;omega
theorem a97 (p:Option Addr) (c:Nat) (page:Int) (w:World):Calls Tryz.prog 146 #[.slice p 0 c,.int .i64 page,.func (.func 147) #[] #[]] w (a4I [] page w):=by
 go_enter Tryz.func146,Tryz.ntmps146
 go_wp2
 go_loopw [9,10] (fun vi vj wr=>vi=.int .i64 0/\vj=.int .i64 0/\wr=w) (fun _ _ _=>0)
 case atStart=>exact ⟨rfl,rfl,rfl⟩
 case round=>
  obtain ⟨rfl,rfl,rfl⟩:=hrel
  go_wp2
  go_ret2
  exact ⟨0,by simp,rfl,(by repeat ((with_reducible exact Below.refl _ _))),a3G [] page⟩
theorem b0V {v:Value} {L:List Ar} {w:World} (page:Int) (h:SlAr w v L):Calls Tryz.prog 146 #[v,.int .i64 page,.func (.func 147) #[] #[]] w (a4I L page w):=by
 rcases h with ⟨p,c,rfl,rfl⟩|⟨b,off,cap,rfl,h2,h3,h4,h5⟩
 ·exact a97 p c page w
 ·exact a9Q b off cap page h2 h3 h4 h5
theorem z8 {page:Int} {a:Ar} (h:a.fin<=page\/page < a.pg):s8 page a=false:=by unfold s8;simp;omega
theorem a6A {L:List Ar} {page:Int} (hg:a1d L) (hI:a0S L page L.length L.length):l4 L page=none :=
 a03 fun j b hj hb=>z8 (xc6 ((hI hg).1 j b hj hb))
theorem a7X {L:List Ar} {page:Int} {i:Nat} {a:Ar} (hg:a1d L) (hI:a0S L page i i) (ha:L[i]?=some a) (h:page < a.pg):l4 L page=none :=
 a03 fun j b hj hb=>by
  rcases xh8 j i with h1|h1
  ·exact z8 (xc6 ((hI hg).1 j b h1 hb))
  ·rcases Nat.lt_or_eq_of_le h1 with h2|h2
   ·have:=a18 hg h2 ha hb;have hk:=t3 hg i a ha;unfold Ar.ok at hk;exact z8 (xc3 (by unfold Ar.fin at this;omega))
   ·subst h2;rw [ha] at hb;cases hb;exact z8 (xc3 h)
theorem a6B {L:List Ar} {page:Int} {i:Nat} {a:Ar} (hg:a1d L) (hI:a0S L page i i) (ha:L[i]?=some a) (h:a.pg<=page):l4 L page=some a :=
 a2t (fun j b hj hb=>z8 (xc6 ((hI hg).1 j b hj hb))) ha (by unfold s8;simp;exact ⟨h,(hI hg).2 i a (xc4 _) ha⟩)
def a2r (L:List Ar) (page:Int):Option Ar:=if b4 L=0 then l4 L page else none
theorem a6Y {v:Value} {L:List Ar} {w:World} (page:Int) (h:SlAr w v L):Calls Tryz.prog 114 #[v,.int .i64 page] w (RB (a2i (a2r L page)) w):=by
 have HC:=hid (fun w' (hb:Below w.heap.size w w')=>a1a (h.grown hb));have HS:=hid (fun w' (hb:Below w.heap.size w w')=>b0V page (h.grown hb));have hsz:(Tryz.prog.info? 119).map (·.size)=some 4:=by kernel_rfl
 have Hsz:=hid hsz;clear hsz;have hbw:=Below.refl w.heap.size w
 go_enter Tryz.func114,Tryz.ntmps114
 go_wp2_with (first|(with_reducible refine l2 4 ?_);refine b8 rfl (some 4) rfl (zl4) 119 (by kernel_rfl) w.heap.size w hbw hbw.size ?_;intro g4 wn4 hL4 hB4 hbn hkn hnn;skip;clear hbw hkn hnn;have hbw:=hbn;clear hbn|go_at_call 146;(with_reducible refine (HS.out _ hbw).mono ?_);rintro e wc ⟨i,hi,rfl,hbc,hI⟩;have hL4:=hL4.grown hbc hL4.lt;have hbn:=bt hbw hbc;clear hbw hbc;have hbw:=hbn;clear hbn)
 by_cases hc:b4 L=0
 ·obtain ⟨_,hg⟩:=m9.1 hc;have HQ:Hid (a2r L page=l4 L page):=by refine hid ?_;unfold a2r;rw [xd6 hc]
  rw [hc] at HC;clear hc;by_cases hlt:i < L.length
  ·obtain ⟨a,ha⟩:∃ a,L[i]?=some a:=⟨L[i],by simp [hlt]⟩;rcases h with ⟨p,c,rfl,rfl⟩|⟨b,off,cap,rfl,hbl,hcap,hmax,d9⟩
   ·simp at hlt
   have HL:=hid d9;have hne:((i:Int) == L.length)=false:=by rw [xh0];omega
   have hli:(i:Int) < L.length:=Int.ofNat_lt.2 hlt;clear d9 hmax;by_cases hp:page < a.pg
   ·have HX:=hid (a7X hg hI ha hp);clear hI
    go_wp2_with (first|(go_at_call 112;(with_reducible refine (HC.out _ hbw).mono ?_);rintro e wk ⟨rfl,hbc⟩);have hL4:=hL4.grown hbc hL4.lt;have hbn:=bt hbw hbc;clear hbw hbc;have hbw:=hbn;clear hbn;obtain ⟨c0,c1,c2,c3⟩:=(HL.out i a ha).grown hbw hbl|(with_reducible refine j4 4 ?_);refine a6 rfl 119 (.tmp 4) (.tmp 32) rfl rfl g4 (zl4) (zl4) rfl rfl hL4 Hsz.out rfl rfl w.heap.size w hbw hB4 ?_;intro wp4 hLn hbn hon;skip;clear hL4 hbw hon;have hL4:=hLn;have hbw:=hbn;clear hLn hbn)
    refine bodyPost_ret (v:=.tuple #[.agg (zl4).toArray,.bool false]) (i4 rfl _ g4 (zl4) (.bool false) _ rfl rfl hL4 Tryz.underlying119 rfl Hsz.out) rfl ⟨by rw [HQ.out,HX.out];rfl,hbw⟩
   ·have HX:=hid (a6B hg hI ha (by omega));clear hI;have hp':decide (page < a.pg)=false:=by simpa using hp
    go_wp2_with (first|(go_at_call 112;(with_reducible refine (HC.out _ hbw).mono ?_);rintro e wk ⟨rfl,hbc⟩);have hL4:=hL4.grown hbc hL4.lt;have hbn:=bt hbw hbc;clear hbw hbc;have hbw:=hbn;clear hbn;obtain ⟨c0,c1,c2,c3⟩:=(HL.out i a ha).grown hbw hbl|(with_reducible refine j4 4 ?_);refine a6 rfl 119 (.tmp 4) (.tmp 36) rfl rfl g4 ([.int .i64 a.pg,.int .i64 a.n,.int .i64 a.prot,.bool a.z]) (zl4) rfl rfl hL4 Hsz.out rfl rfl w.heap.size w hbw hB4 ?_;intro wp4 hLn hbn hon;skip;clear hL4 hbw hon;have hL4:=hLn;have hbw:=hbn;clear hLn hbn)
    refine bodyPost_ret (v:=.tuple #[.agg ([.int .i64 a.pg,.int .i64 a.n,.int .i64 a.prot,.bool a.z]).toArray,.bool true]) (i4 rfl _ g4 ([.int .i64 a.pg,.int .i64 a.n,.int .i64 a.prot,.bool a.z]) (.bool true) _ rfl rfl hL4 Tryz.underlying119 rfl Hsz.out) rfl ⟨by rw [HQ.out,HX.out];rfl,hbw⟩
  ·obtain rfl:i=L.length:=by omega
   have HX:=hid (a6A hg hI);have hlen:∃ n:Nat,n=L.length:=⟨_,rfl⟩;clear hI;rcases h with ⟨p,c,rfl,rfl⟩|⟨b,off,cap,rfl,hbl,hcap,hmax,d9⟩
   ·go_wp2_with (first|(go_at_call 112;(with_reducible refine (HC.out _ hbw).mono ?_);rintro e wk ⟨rfl,hbc⟩);have hL4:=hL4.grown hbc hL4.lt;have hbn:=bt hbw hbc;clear hbw hbc;have hbw:=hbn;clear hbn;skip|(with_reducible refine j4 4 ?_);refine a6 rfl 119 (.tmp 4) (.tmp 32) rfl rfl g4 (zl4) (zl4) rfl rfl hL4 Hsz.out rfl rfl w.heap.size w hbw hB4 ?_;intro wp4 hLn hbn hon;skip;clear hL4 hbw hon;have hL4:=hLn;have hbw:=hbn;clear hLn hbn)
    refine bodyPost_ret (v:=.tuple #[.agg (zl4).toArray,.bool false]) (i4 rfl _ g4 (zl4) (.bool false) _ rfl rfl hL4 Tryz.underlying119 rfl Hsz.out) rfl ⟨by rw [HQ.out,HX.out];rfl,hbw⟩
   ·clear d9 hmax
    go_wp2_with (first|(go_at_call 112;(with_reducible refine (HC.out _ hbw).mono ?_);rintro e wk ⟨rfl,hbc⟩);have hL4:=hL4.grown hbc hL4.lt;have hbn:=bt hbw hbc;clear hbw hbc;have hbw:=hbn;clear hbn;skip|(with_reducible refine j4 4 ?_);refine a6 rfl 119 (.tmp 4) (.tmp 32) rfl rfl g4 (zl4) (zl4) rfl rfl hL4 Hsz.out rfl rfl w.heap.size w hbw hB4 ?_;intro wp4 hLn hbn hon;skip;clear hL4 hbw hon;have hL4:=hLn;have hbw:=hbn;clear hLn hbn)
    refine bodyPost_ret (v:=.tuple #[.agg (zl4).toArray,.bool false]) (i4 rfl _ g4 (zl4) (.bool false) _ rfl rfl hL4 Tryz.underlying119 rfl Hsz.out) rfl ⟨by rw [HQ.out,HX.out];rfl,hbw⟩
 ·have HQ:Hid (a2r L page=none):=by refine hid ?_;unfold a2r;rw [xd7 hc]
  have hn:(b4 L != 0)=true:=by rw [xh7];exact hc
  clear hc;generalize b4 L=ck at *
  go_wp2_with (first|(go_at_call 112;(with_reducible refine (HC.out _ hbw).mono ?_);rintro e wk ⟨rfl,hbc⟩);have hL4:=hL4.grown hbc hL4.lt;have hbn:=bt hbw hbc;clear hbw hbc;have hbw:=hbn;clear hbn;skip|(with_reducible refine j4 4 ?_);refine a6 rfl 119 (.tmp 4) (.tmp 32) rfl rfl g4 (zl4) (zl4) rfl rfl hL4 Hsz.out rfl rfl w.heap.size w hbw hB4 ?_;intro wp4 hLn hbn hon;skip;clear hL4 hbw hon;have hL4:=hLn;have hbw:=hbn;clear hLn hbn)
  refine bodyPost_ret (v:=.tuple #[.agg (zl4).toArray,.bool false]) (i4 rfl _ g4 (zl4) (.bool false) _ rfl rfl hL4 Tryz.underlying119 rfl Hsz.out) rfl ⟨by rw [HQ.out];rfl,hbw⟩
theorem a2z {v:Value} {L:List Ar} {w:World} (h:Sl nF w 4 v (L.map arC)):Fn Tryz.prog 56 [v] w (RBf (.int .i64 (b4 L)) w) :=
 Fn.of_rb ⟨Tryz.func56,by kernel_rfl,by kernel_rfl⟩ (a2B (x7 h))
theorem a7K {v:Value} {L:List Ar} {w:World} (h:Sl nF w 4 v (L.map arC)) (hc:b4 L=0):Fn Tryz.prog 57 [v] w (RBf (.int .i64 (o5 L)) w) :=
 Fn.of_rb ⟨Tryz.func57,by kernel_rfl,by kernel_rfl⟩ (a4R (x7 h) hc)
theorem a56 {v:Value} {L:List Ar} {w:World} (page:Int) (h:Sl nF w 4 v (L.map arC)) (hok:∀ (i:Nat) (a:Ar),L[i]?=some a->a.ok):Fn Tryz.prog 58 [v,.int .i64 page] w (RBf (a2i (l4 L page)) w) :=
 Fn.of_rb ⟨Tryz.func58,by kernel_rfl,by kernel_rfl⟩ (a4M page (x7 h) hok)
theorem a9k {v:Value} {L:List Ar} {w:World} (page:Int) (h:Sl nF w 4 v (L.map arC)):Fn Tryz.prog 114 [v,.int .i64 page] w (RBf (a2i (a2r L page)) w) :=
 Fn.of_rb ⟨Tryz.func114,by kernel_rfl,by kernel_rfl⟩ (a6Y page (x7 h))
theorem a7i {v:Value} {L:List Ar} {w:World} (h:Sl nF w 4 v (L.map arC)):Fn Tryz.prog 113 [v] w (RBf (.int .i64 (if b4 L=0 then o5 L else 0)) w):=by
 by_cases hc:b4 L=0
 ·rw [xd6 hc];exact Fn.of_rb ⟨Tryz.func113,by kernel_rfl,by kernel_rfl⟩ (a4u (x7 h) hc)
 ·rw [xd7 hc];exact Fn.of_rb ⟨Tryz.func113,by kernel_rfl,by kernel_rfl⟩ (a5R (x7 h) hc)
theorem Sl.nil (w:World) (sz:Nat):Sl nF w sz (.slice none 0 0) []:=xc6 ⟨_,_,rfl,rfl⟩
theorem a5g {L:List Ar} {p:Int} {a:Ar} (h:j0 1 L) (hf:l4 L p=some a):a.ok:=by
 unfold l4 at hf;obtain ⟨i,hi⟩:=xc8.1 (xh9 hf);exact a9l h i a hi
theorem a4N {L:List Ar} {p:Int} (h:b4 L=0):a2r L p=l4 L p:=xd6 h
structure Pc where
 r0:Int
 r1:Int
 r2:Int
 r3:Int
 r4:Int
 r5:Int
 r6:Int
 r7:Int
 pc:Int
 state:Int
 code:Int
 fk:Int
 fa:Int
deriving DecidableEq
structure Wd where
 proc:Int
 value:Int
deriving DecidableEq
structure Fp where
 page:Int
 data:List UInt8
deriving DecidableEq
structure Fs where
 live:Bool
 areas:List Ar
 pages:List Fp
def prC (p:Pc):List Value:=[.int .i64 p.r0,.int .i64 p.r1,.int .i64 p.r2,.int .i64 p.r3,.int .i64 p.r4,.int .i64 p.r5,.int .i64 p.r6,.int .i64 p.r7,.int .i64 p.pc,.int .i64 p.state,.int .i64 p.code,.int .i64 p.fk,.int .i64 p.fa]
def wdC (x:Wd):List Value:=[.int .i64 x.proc,.int .i64 x.value]
def fpC (x:Fp):List Value:=[.int .i64 x.page,.string ⟨x.data.toArray⟩]
def m7 (p:Pc) (live:Bool):Bool :=
 if p.state=1 then live && (decide (p.code=0) && decide ((p.fk,p.fa)=((0,0):Int×Int)))
 else if p.state=2 then !live && decide ((p.fk,p.fa)=((0,0):Int×Int))
 else if p.state=3 then !live && (decide (p.code=0) && (decide (1<=p.fk) && decide (p.fk<=4)))
 else false
def a0o (l:List Wd) (n:Int):Bool:=l.all fun x=>decide (0<=x.proc) && decide (x.proc < n)
def l5 (A:List Ar) (l:List Fp) (i:Nat):Bool:=match l[i]? with
 |some p=>(l4 A p.page).isSome && (decide (p.data.length=16) && (match i with
  |0=>true
  |j + 1=>match l[j]? with
   |some q=>decide (q.page < p.page)
   |none=>true))
 |none=>true
def r8 (A:List Ar) (l:List Fp) (n:Nat):Bool:=(List.range n).all (l5 A l)
def fsB (s:Fs):Bool :=
 if s.live then decide (b4 s.areas=0) && (decide ((s.pages.length:Int)=o5 s.areas) && r8 s.areas s.pages s.pages.length)
 else decide (s.areas=[]) && decide (s.pages=[])
structure FlV where
 slots:Int
 sp:List (Fs×Value×Value)
 pr:List Pc
 out:List Wd
 vsp:Value
 vpr:Value
 vout:Value
def fsC (x:Fs×Value×Value):List Value:=[.bool x.1.live,x.2.1,x.2.2]
def flC (f:FlV):List Value:=[.int .i64 f.slots,f.vsp,f.vpr,f.vout]
def t4 (f:FlV):Prop:=f.sp.length < 1\/4 < f.sp.length\/f.pr.length≠f.sp.length\/f.slots < 0\/512 < f.slots\/2000 < f.out.length
instance (f:FlV):Decidable (t4 f):=by unfold t4;infer_instance
def a5U (f:FlV) (i:Nat):Bool:=match f.sp[i]?,f.pr[i]? with
 |some x,some p=>fsB x.1 && m7 p x.1.live
 |_,_=>false
def z7 (l:List (Fs×Value×Value)):Nat:=(l.map fun x=>x.1.pages.length).sum
def j6 (f:FlV):Int :=
 if t4 f then 2 else if (List.range f.sp.length).all (a5U f) && (decide ((z7 f.sp:Int)<=f.slots) && a0o f.out (f.pr.length:Nat)) then 0 else 1
section
variable {P:Program} {n:Nat} {ds:List Deferred} {E:Fr} {w:World} {Q:Exit->Act->World->Prop} {ops:Array Oper} {rest:List Oper} {d:Nat} {dst:Option Nat} {op:Op} {ty:TypeId} {pos:String} {after:Array Edge} {T:Tab}
end
section
variable {P:Program} {n:Nat} {ds:List Deferred} {E:Fr} {w:World} {Q:Exit->Act->World->Prop} {ops:Array Oper} {S:World->Prop} {q fuel:Nat} {li:Array Bool} {d:Nat} {op:Op} {ty:TypeId} {pos:String} {after:Array Edge} {T:Tab}
theorem Gets.pure {dst:Option Nat} {op:Op} {v:Value} (hT:TabOk P T) (hv:j9 T E op=some v):Gets P ⟨dst,op,ty,pos,after,none⟩ n ds E w (fun v' w'=>v'=v/\w'=w):=Gets.of_runs fun _ ha=>t7 hT ha hv
theorem Gets.build {dst:Option Nat} (hT:TabOk P T) {t s:Nat} {fs:List (Nat×Nat×Bool)} {z L:List Value} {parts:Array (Nat×Operand)} {ps:List (Nat×Value)} (ht:T.get t=some (.st s fs z)) (hp:evP E parts.toList=some ps) (hL:y6 (fun i=>(fs[i]?).map fun f=>(f.1,f.2.1)) z ps=some L):Gets P ⟨dst,.build t parts,ty,pos,after,none⟩ n ds E w (fun v' w'=>v'=.agg L.toArray/\w'=w):=Gets.of_runs fun _ ha=>a3f hT ht hp hL _ ha
end
section
variable {F:Nat->Prop} {w0 w w':World} {Γ Δ:List Asr}
end
section
variable {P:Program} {n:Nat} {ds:List Deferred} {E:Fr} {w:World} {Q:Exit->Act->World->Prop} {ops:Array Oper} {rest:List Oper} {d:Nat} {ty:TypeId} {pos:String} {after:Array Edge}
theorem a8J {F:Nat->Prop} {w0:World} {Γ:List Asr} {id:Nat} {l:List Oper} (m:Nat) (hl:l.length=m) (hS:St F w0 w Γ) (hm:P.follows .mixedOrders=true) (h:∀ w1,St F w0 w1 Γ->WA P l.toArray Q (fun w'=>St F w0 w' Γ) m (Array.replicate m false) n ds E w1):WC P (.region id l.toArray true) Q n ds E w:=b0D _ m hl hS hm h
theorem a82 {i:Nat} (_C:Nn i) {S:World->Prop} {fuel:Nat} {li:Array Bool} {op:Op} {v:Value} (hi:ops[i]?=some ⟨some d,op,ty,pos,after,none⟩) (hs:Region.noSelect ops=true) (hf:Region.free .any ops li i=true) (hr:(Region.ready .any ops li).contains i=true)
  (hQ:∀ c (a:Act) w,Q (.panic c) (a.put (some d) v) w->Q (.panic c) a w) (hS:S w) (h:∀ a,Has n ds a E->t8 P ⟨some d,op,ty,pos,after,none⟩ a v) (hd:Nat.blt d n=true) (k:WA P ops Q S fuel (li.setIfInBounds i true) n ds ((d,v)::E) w):WA P ops Q S (fuel + 1) li n ds E w:=fun a ha=>
 wpAnyH_take hi hs hf hr hQ (xc6 ⟨rfl,fun w _=>h a ha w⟩) hS (k _ (ha.put d v hd))
theorem b1H {i:Nat} (_C:Nn i) {T:Tab} {S:World->Prop} {fuel:Nat} {li:Array Bool} (hT:TabOk P T) {t:TypeId} {x y:Operand} {el sz eb b off m c j:Nat} {ag:Bool} {z:List Value} {ii:Int} (hi:ops[i]?=some ⟨some d,.indexAddr t x y,ty,pos,after,none⟩) (hs:Region.noSelect ops=true) (hf:Region.free .any ops li i=true) (hr:(Region.ready .any ops li).contains i=true)
  (hQ:∀ c (a:Act) w v,Q (.panic c) (a.put (some d) v) w->Q (.panic c) a w) (hS:S w) (ht:T.get t=some (.sl el sz eb ag z)) (hx:E.ev x=some (.slice (some ⟨b,off,none⟩) m c)) (hy:E.ev y=some (.int .i64 ii)) (hj:(j:Int)=ii) (hm:j < m) (hd:Nat.blt d n=true) (k:WA P ops Q S fuel (li.setIfInBounds i true) n ds ((d,.pointer (some ⟨b,off + j * sz,none⟩))::E) w):WA P ops Q S (fuel + 1) li n ds E w :=
 a82 _C hi hs hf hr (fun c a w h=>hQ c a w _ h) hS (fun a ha=>a8c hT ht hx hy hj hm a ha _) hd k
end
end Go.Proofs.YtejnpppejalhfadGreat
