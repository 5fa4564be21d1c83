/- Texts that the proof stands on, one behind the other: Ar8, Ar9, Ar10, Ar17, Tab, Sc12, Sc14, Sc15, Sc16, Sc17, Go, As1, As2, Ar19, Ar20, Ar21, Ar22, Ar23, Ar5, Ar11, Ar12, Ar13, Ar14, Ar15, Ar16, As3, As4. -/
import Derived.Deep.DeepAppendWide
import Derived.Laws.OwnMore
import Derived.Laws.Cover2
import Derived.Test.YtejnpppejalhfacGreatProg
import Derived.OrdersHeld
import Derived.WalkLawsBesides
import Derived.Recover
import Derived.Laws.Strings2
import Derived.Laws.Strings3
import Derived.Maps.AppendAt
import Derived.Deep.RegionWith
import Derived.Deep.DeepCutAuto
import Derived.Lib.AppendZerosOnto
import Derived.Lib.Walk
import Derived.Test.YtejnpppejalhfacGreatPFlatStarts2
set_option linter.unusedVariables false
set_option linter.unusedSimpArgs false
namespace Go.Proofs.YtejnpppejalhfacGreat
set_option maxRecDepth 100000
set_option maxHeartbeats 8000000
open Go.RowKit Go.Sort
theorem a5Q {L:List Ar} (h:l0 1 L):1<=s8 1 L:=a1T h
theorem a7y (p:Option Addr) (c:Nat) (w:World):Calls Tryz.prog 120 #[.slice p 0 c] w (y5 [] w):=by
 have hszb:(Tryz.prog.info? 188).map (·.size)=some 256:=by kernel_rfl
 have Hszb:=hid hszb;clear hszb;have hbw:=Below.refl w.heap.size w
 go_enter Tryz.func120,Tryz.ntmps120
 go_wp2_with (first|(with_reducible refine n7 2 ?_);refine f7 rfl (some 2) rfl (bdC (fun _=>0)) 188 (by kernel_rfl) w.heap.size w hbw hbw.size ?_;intro g2 wn2 hL2 hB2 hbn hkn hnn;skip;clear hbw hkn hnn;have hbw:=hbn;clear hbn|(with_reducible refine n7 4 ?_);refine f7 rfl (some 4) rfl (bdC (fun _=>0)) 188 (by kernel_rfl) w.heap.size w hbw hbw.size ?_;intro g4 wn4 hL4 hB4 hbn hkn hnn;(try have n2_4:=hnn _ hL2.lt);(try have n4_2:=Ne.symm (hnn _ hL2.lt));(try have hL2:=hL2.kept hkn);clear hbw hkn hnn;have hbw:=hbn;clear hbn)
 go_loopw [5,6] (fun vl vi wr=>vl=.int .i64 0/\vi=.int .i64 0/\wr=wn4) (fun _ _ _=>0)
 case atStart=>exact ⟨rfl,rfl,rfl⟩
 case round=>
  obtain ⟨rfl,rfl,rfl⟩:=hrel
  go_wp2_with (first|(with_reducible refine n7 44 ?_);refine a0i rfl 188 (.tmp 4) rfl g4 (bdC (fun _=>0)) rfl hL4 _ Tryz.underlying188 rfl (by rw [Hszb.out,j5]) ?_|(with_reducible refine l5 2 ?_);refine d5 rfl 188 (.tmp 2) (.tmp 44) rfl rfl g2 (bdC (fun _=>0)) (bdC (fun _=>0)) rfl rfl hL2 (by rw [Hszb.out,j5]) (by simp [j5]) (a0C _) w.heap.size w hbw hB2 ?_;intro wp2 hLn hbn hon;(try have hL4:=hL4.other hon n4_2);clear hL2 hbw hon;have hL2:=hLn;have hbw:=hbn;clear hLn hbn)
  refine bodyPost_ret (v:=.tuple #[.agg (bdC (fun _=>0)).toArray,.bool true]) (k7 rfl _ g2 (bdC (fun _=>0)) (.bool true) _ rfl rfl hL2 Tryz.underlying188 rfl (by rw [Hszb.out,j5])) rfl ?_;exact ⟨fun _=>0,rfl,hbw,fun _=>rfl⟩
theorem a7g {L:List Ar} {w:World} (b off cap:Nat) (hbl:b < w.heap.size) (j0:∀ i a,L[i]?=some a->CellsAr w b (off + i * 4) a) (hok:∀ (i:Nat) (a:Ar),L[i]?=some a->a.ok) (hlen:L.length<=255) :
  Calls Tryz.prog 120 #[.slice (some ⟨b,off,none⟩) L.length cap] w (y5 L w):=by
 have hszb:(Tryz.prog.info? 188).map (·.size)=some 256:=by kernel_rfl
 have Hszb:=hid hszb;clear hszb;have hsz:(Tryz.prog.info? 136).map (·.size)=some 4:=by kernel_rfl
 have Hsz:=hid hsz;clear hsz;have hsz:(Tryz.prog.info? 3).map (·.size)=some 1:=by kernel_rfl
 have Hsz1:=hid hsz;clear hsz;have HL:=hid j0;have HO:=hid hok;clear j0 hok;have hbw:=Below.refl w.heap.size w
 go_enter Tryz.func120,Tryz.ntmps120
 go_wp2_with (first|(with_reducible refine n7 2 ?_);refine f7 rfl (some 2) rfl (bdC (fun _=>0)) 188 (by kernel_rfl) w.heap.size w hbw hbw.size ?_;intro g2 wn2 hL2 hB2 hbn hkn hnn;skip;clear hbw hkn hnn;have hbw:=hbn;clear hbn|(with_reducible refine n7 4 ?_);refine f7 rfl (some 4) rfl (bdC (fun _=>0)) 188 (by kernel_rfl) w.heap.size w hbw hbw.size ?_;intro g4 wn4 hL4 hB4 hbn hkn hnn;(try have n2_4:=hnn _ hL2.lt);(try have n4_2:=Ne.symm (hnn _ hL2.lt));(try have hL2:=hL2.kept hkn);clear hbw hkn hnn;have hbw:=hbn;clear hbn)
 go_loopw [5,6] (fun vl vi wr=>∃ i:Nat,i<=L.length/\vi=.int .i64 i/\vl=.int .i64 (s8 1 (L.take i) - 1)/\Below w.heap.size w wr/\HoldL wr g4 (bdC (i5 (L.take i)))/\HoldL wr g2 (bdC (fun _=>0))/\Hid (l0 1 (L.take i))) (fun _ vi _=>L.length - (intOf vi).toNat)
 case atStart=>exact ⟨0,by omega,rfl,rfl,hbw,hL4,hL2,trivial⟩
 case round=>
  clear hbw hL4 hL2;obtain ⟨i,hi,rfl,rfl,hbw,hL4,hL2,HR⟩:=hrel;by_cases hlt:i < L.length
  ·obtain ⟨a,ha⟩:∃ a,L[i]?=some a:=⟨L[i],by simp [hlt]⟩;obtain ⟨c0,c1,c2,c3⟩:=(HL.out i a ha).grown hbw hbl;have hao:=HO.out i a ha;have hbr:=a0B (xa7 hbl hbw.size);have HT:=hid (a6m ha);by_cases hr:s8 1 (L.take i)<=a.pg
   ·have HX:Hid (l0 1 (L.take i++[a])):=a3A.2 ⟨HR.out,hao,hr⟩;have hpos:=a5Q HR.out;have hok:=hao;unfold Ar.ok at hok;have hfin:a.fin=a.pg + a.n:=rfl;have hw1:wrap64 (a.pg + a.n)=a.fin:=by rw [hfin];exact l4 _ (by omega) (by omega)
    have hw2:wrap64 (a.fin - 1)=a.fin - 1:=by rw [hfin];exact l4 _ (by omega) (by omega)
    have hlt2:s8 1 (L.take i) - 1 < a.pg:=by omega
    obtain ⟨q0,hq0⟩:=Int.eq_ofNat_of_zero_le (show 0<=a.pg by omega);have hmk:Hid (a.mk'=1 + 2 * a.prot + (if a.z then 8 else 0)):=hid rfl;have HM:=hid (fun w=>a6B (a85 a.prot a.z ⟨by omega,by omega⟩ w));rw [<- hmk.out] at HM;have HS:=hid (a4r (L.take i) a);have HE:=hid (a6f HX.out);have HP:=hid (fun q:Nat=>a5i (L.take i) a q);have HK:=hid (show ∀ q:Nat,(q:Int) < a.fin->q < 256 from fun q h=>by omega);have hqb:(q0:Int)<=a.fin:=by omega
    have HQ:=hid hq0;clear hr hao hok hpos hfin hq0;have HLT:=hid hlt;generalize hlst:s8 1 (L.take i) - 1=lst at *;clear hlst
    go_wp2_with (first|(with_reducible refine n7 7 ?_);refine f7 rfl (some 7) rfl (zl4) 136 (by kernel_rfl) w.heap.size w hbw hbw.size ?_;intro g7 wn7 hL7 hB7 hbn hkn hnn;(try have n2_7:=hnn _ hL2.lt);(try have n7_2:=Ne.symm (hnn _ hL2.lt));(try have hL2:=hL2.kept hkn);(try have n4_7:=hnn _ hL4.lt);(try have n7_4:=Ne.symm (hnn _ hL4.lt));(try have hL4:=hL4.kept hkn);clear hbw hkn hnn;have hbw:=hbn;clear hbn|((with_reducible refine l5 7 ?_);refine d5 rfl 136 (.tmp 7) (.tmp 18) rfl rfl g7 ([.int .i64 a.pg,.int .i64 a.n,.int .i64 a.prot,.bool a.z]) (zl4) rfl rfl hL7 Hsz.out rfl rfl w.heap.size w hbw hB7 ?_;intro wp7 hLn hbn hon;(try have hL2:=hL2.other hon n2_7);(try have hL4:=hL4.other hon n4_7);clear hL7 hbw hon;have hL7:=hLn;have hbw:=hbn;clear hLn hbn);have d0:wp7.cell? ⟨g7,0,none⟩=some (.int .i64 a.pg):=hL7.cell 0;have d1:wp7.cell? ⟨g7,1,none⟩=some (.int .i64 a.n):=hL7.cell 1)
    rw [hw1,hw2];clear hw1 hw2
    go_loopw [8] (fun vp wr=>∃ q:Nat,(a.pg<=q/\(q:Int)<=a.fin)/\vp=.int .i64 q/\Below w.heap.size w wr/\HoldL wr g4 (bdC (a0V (L.take i) a q))/\HoldL wr g2 (bdC (fun _=>0))/\HoldL wr g7 [.int .i64 a.pg,.int .i64 a.n,.int .i64 a.prot,.bool a.z]) (fun vp _=>(a.fin - intOf vp).toNat)
    case atStart=>
     refine ⟨q0,⟨Int.le_of_eq HQ.out,hqb⟩,by rw [HQ.out],hbw,?_,hL2,hL7⟩;have:=HS.out;rw [HQ.out] at this;rw [this];exact hL4
    case round=>
     clear hbw hL4 hL2 hL7;obtain ⟨q,⟨hq1,hq2⟩,rfl,hbw,hL4,hL2,hL7⟩:=hrel;have e2:=hL7.cell 2;have e3:=hL7.cell 3;by_cases hq:(q:Int) < a.fin
     ·have hq256:=HK.out q hq;have hq6:(q:Int) < 256:=by omega
      have hle:(q:Int)<=a.fin - 1:=by omega
      have HMONO:Hid (a.pg<=((q + 1:Nat):Int)/\((q + 1:Nat):Int)<=a.fin):=hid (by omega);have HMS:Hid ((a.fin - ((q:Int) + 1)).toNat < (a.fin - (q:Int)).toNat):=hid (by omega);have HWS:Hid (wrap64 ((q:Int) + 1)=(q:Int) + 1):=hid (l4 _ (by omega) (by omega));have HQ1:=hid hq1;clear hq1 hq2 hq hq256
      go_wp2_with (first|(go_at_call 121;(with_reducible refine (HM.out _).mono ?_);rintro e wc ⟨rfl,hbc⟩);have hL4:=hL4.grown hbc hL4.lt;have hL2:=hL2.grown hbc hL2.lt;have hL7:=hL7.grown hbc hL7.lt;have hbn:=bt hbw hbc;clear hbw hbc;have hbw:=hbn;clear hbn|(with_reducible refine l5 43 ?_);refine a2w rfl 3 (.tmp 43) (.tmp 42) rfl rfl Hsz1.out g4 q a.mk' rfl rfl (bdC (a0V (L.take i) a q)) hL4 (by rw [j5];exact Int.ofNat_lt.1 hq6) w.heap.size w hbw hB4 ?_;intro w6 hL46 hbw6 ho6;rw [HP.out q HQ1.out] at hL46;have hL2:=hL2.other ho6 n2_4;have hL7:=hL7.other ho6 n7_4)
      go_roundw
      case rel=>exact ⟨q + 1,HMONO.out,rfl,hbw6,hL46,hL2,hL7⟩
      case measure=>exact HMS.out
     ·have hqe:(q:Int)=a.fin:=by omega
      have hnl:a.fin - 1 < (q:Int):=by omega
      rw [hqe,HE.out] at hL4;have HQE:=hid hqe;clear hqe;have HWI:Hid (wrap64 ((i:Int) + 1)=(i:Int) + 1):=hid (l4 _ (by omega) (by omega));have HMS:Hid (L.length - ((i:Int) + 1).toNat < L.length - (i:Int).toNat):=hid (by omega);clear hq1 hq2 hq
      go_wp2
      refine ⟨⟨i + 1,hlt,rfl,?_,hbw,?_,hL2,?_⟩,?_⟩
      ·rw [HT.out,a56]
      ·rw [HT.out];exact hL4
      ·rw [HT.out];exact HX.out
      ·exact HMS.out
   ·have HX:Hid (¬ l0 1 L):=fun h=>by
     have:=a7z h (i + 1);rw [HT.out,a3A] at this;exact hr this.2.2
    have hle:a.pg<=s8 1 (L.take i) - 1:=by omega
    clear hr HT hao;generalize s8 1 (L.take i) - 1=lst at *;generalize i5 (L.take i)=bb at *
    go_wp2_with (first|(with_reducible refine n7 7 ?_);refine f7 rfl (some 7) rfl (zl4) 136 (by kernel_rfl) w.heap.size w hbw hbw.size ?_;intro g7 wn7 hL7 hB7 hbn hkn hnn;(try have n2_7:=hnn _ hL2.lt);(try have n7_2:=Ne.symm (hnn _ hL2.lt));(try have hL2:=hL2.kept hkn);(try have n4_7:=hnn _ hL4.lt);(try have n7_4:=Ne.symm (hnn _ hL4.lt));(try have hL4:=hL4.kept hkn);clear hbw hkn hnn;have hbw:=hbn;clear hbn|((with_reducible refine l5 7 ?_);refine d5 rfl 136 (.tmp 7) (.tmp 18) rfl rfl g7 ([.int .i64 a.pg,.int .i64 a.n,.int .i64 a.prot,.bool a.z]) (zl4) rfl rfl hL7 Hsz.out rfl rfl w.heap.size w hbw hB7 ?_;intro wp7 hLn hbn hon;(try have hL2:=hL2.other hon n2_7);(try have hL4:=hL4.other hon n4_7);clear hL7 hbw hon;have hL7:=hLn;have hbw:=hbn;clear hLn hbn);have d0:wp7.cell? ⟨g7,0,none⟩=some (.int .i64 a.pg):=hL7.cell 0|(with_reducible refine n7 23 ?_);refine a0i rfl 188 (.tmp 4) rfl g4 (bdC bb) rfl hL4 _ Tryz.underlying188 rfl (by rw [Hszb.out,j5]) ?_|(with_reducible refine l5 2 ?_);refine d5 rfl 188 (.tmp 2) (.tmp 23) rfl rfl g2 (bdC bb) (bdC (fun _=>0)) rfl rfl hL2 (by rw [Hszb.out,j5]) (by simp [j5]) (a0C _) w.heap.size w hbw hB2 ?_;intro wp2 hLn hbn hon;(try have hL4:=hL4.other hon n4_2);(try have hL7:=hL7.other hon n7_2);clear hL2 hbw hon;have hL2:=hLn;have hbw:=hbn;clear hLn hbn)
    refine bodyPost_ret (v:=.tuple #[.agg (bdC bb).toArray,.bool false]) (k7 rfl _ g2 (bdC bb) (.bool false) _ rfl rfl hL2 Tryz.underlying188 rfl (by rw [Hszb.out,j5])) rfl ?_;exact ⟨bb,by rw [xh9 HX.out],hbw,fun h=>absurd h HX.out⟩
  ·have:i=L.length:=by omega
   subst this;rw [xf2] at hL4 HR
   go_wp2_with (first|(with_reducible refine n7 44 ?_);refine a0i rfl 188 (.tmp 4) rfl g4 (bdC (i5 L)) rfl hL4 _ Tryz.underlying188 rfl (by rw [Hszb.out,j5]) ?_|(with_reducible refine l5 2 ?_);refine d5 rfl 188 (.tmp 2) (.tmp 44) rfl rfl g2 (bdC (i5 L)) (bdC (fun _=>0)) rfl rfl hL2 (by rw [Hszb.out,j5]) (by simp [j5]) (a0C _) w.heap.size w hbw hB2 ?_;intro wp2 hLn hbn hon;(try have hL4:=hL4.other hon n4_2);clear hL2 hbw hon;have hL2:=hLn;have hbw:=hbn;clear hLn hbn)
   refine bodyPost_ret (v:=.tuple #[.agg (bdC (i5 L)).toArray,.bool true]) (k7 rfl _ g2 (bdC (i5 L)) (.bool true) _ rfl rfl hL2 Tryz.underlying188 rfl (by rw [Hszb.out,j5])) rfl ?_;exact ⟨i5 L,by rw [xh7 HR.out],hbw,fun _=>rfl⟩
def a1m (L:List Ar):List Value:=L.flatMap arC
theorem a1N (L:List Ar):(a1m L).length=L.length * 4:=by
 induction L with
 |nil=>rfl
 |cons a L ih=>unfold a1m at *;simp [arC,ih];omega
theorem a1k (L:List Ar) (a:Ar):a1m (L++[a])=a1m L++arC a:=by simp [a1m]
theorem a7K (L:List Ar) (a:Ar) (n:Int):a1m (L++[{ a with n:=n }])=(a1m (L++[a])).set (L.length * 4 + 1) (.int .i64 n):=by
 rw [a1k,a1k,List.set_append_right _ _ (by rw [a1N];omega),a1N,show L.length * 4 + 1 - L.length * 4=1 by omega];rfl
theorem a98 (L:List Ar) (a:Ar) (j:Nat) (h:j < 4):(a1m (L++[a]))[L.length * 4 + j]?=(arC a)[j]?:=by
 rw [a1k,xa4 (by rw [a1N];omega),a1N,show L.length * 4 + j - L.length * 4=j by omega]
theorem a1L {L:List Ar}:∀ {i:Nat} {a:Ar},L[i]?=some a->∀ j:Nat,j < 4->(a1m L)[i * 4 + j]?=(arC a)[j]?:=by
 induction L with
 |nil=>intro i a h;simp at h
 |cons c L ih=>
  intro i a h j hj;have e:a1m (c::L)=arC c++a1m L:=rfl;rw [e]
  cases i with
  |zero=>
   simp at h;subst h;rw [xa5 (by simp [arC];omega)];simp
  |succ i=>
   rw [xa4 (by simp [arC];omega),show (i + 1) * 4 + j - (arC c).length=i * 4 + j by simp [arC];omega];exact ih (by simpa using h) j hj
theorem a5Y {w:World} {base:Nat} {e:TypeId} {v:Value} {L:List Ar} (h:w.ownsRow base e 4 v L.length (a1m L)):SlAr w v L:=by
 rcases h.2 with ⟨rfl,hn⟩|⟨g,cap,cur,rfl,hb,hg,hnc,hcm,_⟩
 ·exact xc7 ⟨_,_,rfl,xe1 hn⟩
 ·have hlt:=(xa8.1 hg).1;refine xc4 ⟨g,0,cap,rfl,hlt,hnc,hcm,fun i a ha=>?_⟩;obtain ⟨hi,_⟩:=xa6.1 ha;refine ⟨?_,?_,?_,?_⟩
  ·have:=h.cellAt (i * 4 + 0) (by omega);rw [a1L ha 0 (by decide)] at this;simpa [arC] using this
  ·have:=h.cellAt (i * 4 + 1) (by omega);rw [a1L ha 1 (by decide)] at this;simpa [arC] using this
  ·have:=h.cellAt (i * 4 + 2) (by omega);rw [a1L ha 2 (by decide)] at this;simpa [arC] using this
  ·have:=h.cellAt (i * 4 + 3) (by omega);rw [a1L ha 3 (by decide)] at this;simpa [arC] using this
theorem a3Z {w w':World} {base:Nat} {e:TypeId} {size n:Nat} {v:Value} {xs:List Value} (h:w.ownsRow base e size v n xs) (hb:Below w.heap.size w w'):w'.ownsRow base e size v n xs:=by
 refine ⟨h.1,?_⟩;rcases h.2 with hn|⟨g,cap,cur,rfl,hbg,hgg,rest⟩
 ·exact .inl hn
 ·exact .inr ⟨g,cap,cur,rfl,hbg,by rw [hb.block g (xa8.1 hgg).1];exact hgg,rest⟩
theorem a7b (b:Int->Int) (k:Nat):∀ a ∈ n5 b k,1<=a.pg/\1<=a.n:=by
 induction k with
 |zero=>intro a h;simp [n5] at h
 |succ k ih=>
  unfold n5 a0r
  split
  ·exact ih
  split
  ·intro a h;rcases List.eq_nil_or_concat (n5 b k) with e|⟨l,c,e⟩
   ·rw [e] at h;simp [y9] at h
   ·rw [e] at ih h;simp only [List.concat_eq_append] at ih h;rw [a0t] at h;rcases xd2.1 h with h|h
    ·exact ih a (xd2.2 (xc7 h))
    ·have:a={ c with n:=c.n + 1 }:=by simpa using h
     subst this;have:=ih c (by simp);exact ⟨this.1,by simp only;omega⟩
  ·intro a h;rcases xd2.1 h with h|h
   ·exact ih a h
   ·rw [xh0] at h;rw [h];exact ⟨by simp only;omega,by simp only;omega⟩
theorem a7l (b:Int->Int) (k:Nat):(n5 b k).length<=k:=by
 induction k with
 |zero=>simp [n5]
 |succ k ih=>
  unfold n5 a0r
  split
  ·omega
  split
  ·rcases List.eq_nil_or_concat (n5 b k) with e|⟨l,c,e⟩
   ·rw [e];simp [y9]
   ·rw [e] at ih |-;simp only [List.concat_eq_append] at ih |-;rw [a0t];simp at ih |-;omega
  ·simp;omega
def b08 (base:Nat) (w:World) (v:Value) (L:List Ar):Prop:=w.ownsRow base 136 4 v L.length (a1m L)
theorem a7Q {w:World} {base base':Nat} {v:Value} {L:List Ar} (h:w.ownsRow base 136 4 v L.length (a1m L)) (hb:base'<=base):b08 base' w v L:=by
 refine ⟨h.1,?_⟩;rcases h.2 with hn|⟨g,cap,cur,rfl,hg,rest⟩
 ·exact .inl hn
 ·exact .inr ⟨g,cap,cur,rfl,xc6 hb hg,rest⟩
def a7q (L:List Ar) (w:World) (e:Ending) (w':World):Prop:=∃ v,e=.returned v/\b08 w.heap.size w' v L/\Below w.heap.size w w'
theorem a7A:∃ i,(Tryz.prog).info? 136=some i/\i.zero=some (.agg #[.int .i64 0,.int .i64 0,.int .i64 0,.bool false])/\i.size=4/\i.bytes=32:=by
 have h:((Tryz.prog).info? 136).map (fun i=>(i.zero,i.size,i.bytes))=some (some (.agg #[.int .i64 0,.int .i64 0,.int .i64 0,.bool false]),4,32):=by kernel_rfl
 cases hq:(Tryz.prog).info? 136 with
 |none=>simp [hq] at h
 |some i=>
  simp [hq] at h;exact ⟨i,rfl,h.1,h.2.1,h.2.2⟩
theorem a7u (W:World) (c0 c1 c2 c3:Value) (t:TypeId):∀ (j:Nat) (u:Value),[c0,c1,c2,c3][j]?=some u->(W.alloc (.cells #[c0,c1,c2,c3] t)).cell? ((⟨W.heap.size,0,none⟩:Addr).add j)=some u:=by
 intro j u h;rw [show (⟨W.heap.size,0,none⟩:Addr).add j=⟨W.heap.size,j,none⟩ from by unfold Addr.add;split <;> simp_all];rw [World.cell?_alloc_mark,<- h];simp
theorem ms4 {k:Nat} (h:k < 255):(256 - ((k:Int) + 1 + 1)).toNat < (256 - ((k:Int) + 1)).toNat:=by omega
theorem a2h (b:Int->Int) (hm:∀ p,a7D (b p)) (h0:b 0=0) (w:World):Calls Tryz.prog 122 #[.agg (bdC b).toArray] w (a7q (n5 b 255) w):=by
 obtain ⟨i0,hi0,hz0,hs0,hy0⟩:=a7A;have HI:=hid hi0;have HZ:=hid hz0;have HSZ:=hid hs0;have HY:=hid hy0;have HA:=hid (a2t b hm h0);have HP:=hid (a7b b);have HN:=hid (a7l b);have HM:=hid hm;have HB:=hid (a59 b);clear hi0 hz0 hs0 hy0 hm h0;have hbw:=Below.refl w.heap.size w;obtain ⟨B,hB⟩:∃ B,B=bdC b:=⟨_,rfl⟩;rw [<- hB] at HB |-;clear hB
 go_enter Tryz.func122,Tryz.ntmps122
 go_wp2_with (first|(with_reducible refine n7 1 ?_);refine a2v rfl 188 (.tmp 0) rfl (some 1) rfl (B) rfl w.heap.size w hbw hbw.size ?_;intro g1 wn1 hL1 hB1 hbn hkn hnn;skip;clear hbw hkn hnn;have hbw:=hbn;clear hbn)
 go_loopw [3,4] (fun vo vp wr=>∃ k:Nat,k<=255/\vp=.int .i64 ((k:Int) + 1)/\Below wn1.heap.size wn1 wr/\wr.ownsRow wn1.heap.size 136 4 vo (n5 b k).length (a1m (n5 b k))) (fun _ vp _=>(256 - intOf vp).toNat)
 case atStart=>exact ⟨0,by omega,rfl,Below.refl _ _,World.ownsRow_nil _ _ _ _⟩
 case round=>
  obtain ⟨k,hk,rfl,hb2,hown⟩:=hrel;by_cases hlt:k < 255
  ·have h1b:=hL1.grown hb2 hL1.lt;have e0:=(h1b.cell k).trans (HB.out k (by omega));have e1:=(h1b.cell (k + 1)).trans (HB.out (k + 1) (by omega));rw [show ((k + 1:Nat):Int)=(k:Int) + 1 by omega] at e1;have z1:=a0B h1b.lt;have HS:Hid (n5 b (k + 1)=a0r b (n5 b k) ((k:Int) + 1)):=hid rfl;by_cases c1:b ((k:Int) + 1)=0
   ·have c1':(b ((k:Int) + 1) == 0)=true:=by simpa using c1
    have HX:Hid (n5 b (k + 1)=n5 b k):=by refine hid ?_;rw [HS.out];unfold a0r;rw [xd8 c1]
    clear c1;generalize b ((k:Int) + 1)=bp at *;have HMS:=hid (ms4 hlt)
    go_wp2
    exact ⟨⟨k + 1,hlt,rfl,hb2,by rw [HX.out];exact hown⟩,HMS.out⟩
   have c1':(b ((k:Int) + 1) == 0)=false:=by simpa using c1
   have hmk:=HM.out ((k:Int) + 1);by_cases c2:b k=b ((k:Int) + 1)
   ·have c2':(b k == b ((k:Int) + 1))=true:=by simpa using c2
    obtain ⟨l,a,hla,hfin⟩:=(HA.out k).2.2 (by rw [c2];exact c1);have HX:Hid (n5 b (k + 1)=l++[{ a with n:=a.n + 1 }]):=by
     refine hid ?_;rw [HS.out];unfold a0r;rw [xd9 c1,xd8 (by rw [show (k:Int) + 1 - 1=k by omega];exact c2),hla,a0t]
    have hpg:=HP.out k a (by rw [hla];simp);have hfn:a.fin=a.pg + a.n:=rfl;have hw:wrap64 (a.n + 1)=a.n + 1:=by
     exact l4 _ (by omega) (by omega)
    have HF:=hid (a7K l a (a.n + 1));have HAT:=hid (a98 l a 1 (by decide));rw [hla,show (l++[a]).length=l.length + 1 by simp] at hown;have hlen:l.length<=255:=by have:=HN.out k;rw [hla] at this;simp at this;omega
    rcases hown.2 with ⟨_,h⟩|⟨g,cap,cur,rfl,hbg,hgg,hnc,hcm,hrest⟩
    ·omega
    have hglt:=(xa8.1 hgg).1;clear hgg hcm hrest cur;have HMS:=hid (ms4 hlt);clear c1 c2 hla hfin hpg hfn hmk;generalize b ((k:Int) + 1)=bp at *;generalize b k=bk at *;have t0:wr.cell? ⟨g,l.length * 4 + 1,none⟩=some (.int .i64 a.n):=(hown.cellAt (l.length * 4 + 1) (by omega)).trans HAT.out;have t1:=hown.frozenAt (l.length * 4 + 1);have zg:=a0B hglt
    go_wp2
    refine wp_region_quiet_below (by kernel_rfl) (by kernel_rfl) ?_
    repeat ((go_big_quiet_step ((fail))))
    refine wpQuiet_nil ?_;intro wq hw';obtain ⟨⟨dq,osq⟩,hw''⟩:=hw';have hbr:=i9 hw'';clear hw''
    first
     |(have hbn:=bt hbq hbr;clear hcq hfq hzq hbq hbr;have hbq:=hbn;clear hbn)
     |(have hbq:=hbr;clear hbr)
    obtain ⟨hcq,hfq,hzq⟩:=q9 hbq;have hown:=a3Z hown hbq;have hb2:=bt hb2 hbq;have HS2:=hid (hown.stored (l.length * 4 + 1) (.int .i64 (a.n + 1)))
    go_wp2
    refine ⟨⟨k + 1,hlt,rfl,hb2.setCell hbg _,?_⟩,HMS.out⟩;rw [HX.out,HF.out]
    simpa using HS2.out.1
   ·have c2':(b k == b ((k:Int) + 1))=false:=by simpa using c2
    have HX:Hid (n5 b (k + 1)=n5 b k++[⟨(k:Int) + 1,1,(b ((k:Int) + 1) - 1) % 8 / 2,decide (8<=b ((k:Int) + 1) - 1)⟩]):=by
     refine hid ?_;rw [HS.out];unfold a0r;rw [xd9 c1,xd9 (by rw [show (k:Int) + 1 - 1=k by omega];exact c2)]
    have HMS:=hid (ms4 hlt);have hlen:=HN.out k;have hmk2:1<=b ((k:Int) + 1)/\b ((k:Int) + 1)<=16:=by unfold a7D at hmk;omega
    obtain ⟨m1,m2⟩:=hmk2;have hr1:(b ((k:Int) + 1) - 1).tmod 8=(b ((k:Int) + 1) - 1) % 8:=Int.tmod_eq_emod_of_nonneg (by omega);have hr2:((b ((k:Int) + 1) - 1) % 8).tdiv 2=(b ((k:Int) + 1) - 1) % 8 / 2:=xj9 (by omega);clear c1 c2 hmk;generalize n5 b k=U at *;generalize b ((k:Int) + 1)=bp at *;generalize b k=bk at *
    go_wp2
    refine wp_region_quiet_below (by kernel_rfl) (by kernel_rfl) ?_
    repeat ((go_big_quiet_step ((fail))))
    refine wpQuiet_nil ?_;intro wq hw';obtain ⟨⟨dq,osq⟩,hw''⟩:=hw';have hbr:=i9 hw'';clear hw''
    first
     |(have hbn:=bt hbq hbr;clear hcq hfq hzq hbq hbr;have hbq:=hbn;clear hbn)
     |(have hbq:=hbr;clear hbr)
    obtain ⟨hcq,hfq,hzq⟩:=q9 hbq;have hown:=a3Z hown hbq;have hb2:=bt hb2 hbq
    go_wp2_with (first|(with_reducible refine n7 45 ?_);go_must (refine wpList_append_own_wide _ rfl (.tmp 36) (.tmp 44) 39 rfl wn1.heap.size 136 i0 (.agg #[.int .i64 0,.int .i64 0,.int .i64 0,.bool false]) 4 32 Tryz.underlying39 HI.out HZ.out HSZ.out HY.out rfl (by decide) u3 U.length (a1m U) rfl (hown.alloc _) ⟨wq.heap.size,0,none⟩ 1 1 [.int .i64 ((k:Int) + 1),.int .i64 1,.int .i64 ((bp - 1) % 8 / 2),.bool (decide (8<=bp - 1))] rfl rfl (a7u wq _ _ _ _ _) (by intro u hu;simp at hu;rcases hu with rfl|rfl|rfl|rfl <;> rfl) (by unfold maxLen;omega) (by omega) (by have:=hb2.size;simp;omega) ?_);intro v3 w3 hown3 hg3 hn3)
    have hb3:=(hb2.alloc hb2.size _).grown hg3 (by have:=hb2.size;simp;omega) (fun j hj=>(hown.lt j hj).1);refine ⟨⟨k + 1,hlt,rfl,hb3,?_⟩,HMS.out⟩;rw [HX.out,a1k,xd6];exact hown3
  ·go_wp2
   go_ret
   obtain rfl:k=255:=by omega
   exact ⟨_,rfl,a7Q hown hbw.size,bt hbw hb2⟩
theorem a55 {A B:List Ar} (hl:A.length=B.length) (h:∀ (i:Nat) (a b:Ar),A[i]?=some a->B[i]?=some b->a=b):A=B:=by
 apply List.ext_getElem hl;intro i h1 h2;exact h i _ _ (by simp [h1]) (by simp [h2])
theorem a74 {A B:List Ar} {i:Nat} {a b:Ar} (ha:A[i]?=some a) (hb:B[i]?=some b) (h:a≠b):A≠B:=fun e=>by
 subst e;rw [ha] at hb;cases hb;exact h rfl
theorem a9X {A B:List Ar} (h:A.length≠B.length):A≠B:=fun e=>h (by rw [e])
theorem ms5 {i n:Nat} (h:i < n):n - ((i:Int) + 1).toNat < n - (i:Int).toNat:=by omega
theorem a5x (h n:Nat) (h1:h < n) (h2:n<=9223372036854775807):wrap64 ((h:Int) + 1)=(h:Int) + 1:=by unfold wrap64;omega
theorem a63 {A B:List Ar} {w:World} (b1 off1 cap1 b2 off2 cap2:Nat) (hb1:b1 < w.heap.size) (hb2:b2 < w.heap.size) (hc1:∀ i a,A[i]?=some a->CellsAr w b1 (off1 + i * 4) a) (hc2:∀ i a,B[i]?=some a->CellsAr w b2 (off2 + i * 4) a) (hl:A.length=B.length) (hmax:A.length<=9223372036854775807) :
  Calls Tryz.prog 59 #[.slice (some ⟨b1,off1,none⟩) A.length cap1,.slice (some ⟨b2,off2,none⟩) B.length cap2] w (RB (.bool (decide (A=B))) w):=by
 have HA:=hid hc1;have HB:=hid hc2;have HL:=hid hl;have HM:=hid hmax;rw [<- hl];clear hc1 hc2 hl hmax
 go_enter Tryz.func59,Tryz.ntmps59
 go_wp2
 go_loopw [5] (fun vi wr=>∃ i:Nat,i<=A.length/\vi=.int .i64 i/\Below w.heap.size w wr/\Hid (∀ (j:Nat) (a b:Ar),j < i->A[j]?=some a->B[j]?=some b->a=b)) (fun vi _=>A.length - (intOf vi).toNat)
 case atStart=>exact ⟨0,by omega,rfl,Below.refl _ _,fun j a b hj=>by omega⟩
 case round=>
  obtain ⟨i,hi,rfl,hb,HO⟩:=hrel;by_cases hlt:i < A.length
  ·obtain ⟨a,ha⟩:∃ a,A[i]?=some a:=⟨A[i],by simp [hlt]⟩;obtain ⟨b,hbb⟩:∃ b,B[i]?=some b:=⟨B[i]'(by have:=HL.out;omega),by simp⟩;obtain ⟨c0,c1,c2,c3⟩:=(HA.out i a ha).grown hb hb1;obtain ⟨d0,d1,d2,d3⟩:=(HB.out i b hbb).grown hb hb2;have z1:=a0B (xa7 hb1 hb.size);have z2:=a0B (xa7 hb2 hb.size);by_cases e:a=b
   ·have HX:=hid e;subst e;have hli:(i:Int) < A.length:=Int.ofNat_lt.2 hlt;have hws:=a5x i A.length hlt HM.out;have HMS:=hid (ms5 hlt)
    go_wp2
    refine wp_region_quiet_below (by kernel_rfl) (by kernel_rfl) ?_
    repeat (first|go_big_quiet_step ((fail))|quiet_step ((fail)))
    refine wpQuiet_nil ?_;intro wq hw';obtain ⟨⟨dq,osq⟩,hw''⟩:=hw';have hbr:=i9 hw'';clear hw''
    first
     |(have hbn:=bt hbq hbr;clear hcq hfq hzq hbq hbr;have hbq:=hbn;clear hbn)
     |(have hbq:=hbr;clear hbr)
    obtain ⟨hcq,hfq,hzq⟩:=q9 hbq
    go_wp2
    go_roundw
    case rel=>
     refine ⟨i + 1,hlt,by first|rfl|(rw [hws];rfl),bt hb hbq,fun j x y hj hx hy=>?_⟩;rcases xj7.1 hj with h|h
     ·exact HO.out j x y h hx hy
     ·subst h;rw [ha] at hx;rw [hbb] at hy;cases hx;cases hy;rfl
    case measure=>first|exact HMS.out|(rw [hws];exact HMS.out)
   ·have HX:=hid (a74 ha hbb e);by_cases e1:a.pg=b.pg
    ·by_cases e2:a.n=b.n
     ·by_cases e3:a.prot=b.prot
      ·have e4:¬ a.z=b.z:=fun h=>e (by cases a;cases b;simp_all);have f1:(a.pg == b.pg)=true:=by simpa using e1
       have f2:(a.n == b.n)=true:=by simpa using e2
       have f3:(a.prot == b.prot)=true:=by simpa using e3
       have f4:(a.z == b.z)=false:=by simpa using e4
       clear e e1 e2 e3 e4
       go_wp2
       refine wp_region_quiet_below (by kernel_rfl) (by kernel_rfl) ?_
       repeat (first|go_big_quiet_step ((fail))|quiet_step ((fail)))
       refine wpQuiet_nil ?_;intro wq hw';obtain ⟨⟨dq,osq⟩,hw''⟩:=hw';have hbr:=i9 hw'';clear hw''
       first
        |(have hbn:=bt hbq hbr;clear hcq hfq hzq hbq hbr;have hbq:=hbn;clear hbn)
        |(have hbq:=hbr;clear hbr)
       obtain ⟨hcq,hfq,hzq⟩:=q9 hbq
       go_wp2
       go_ret
       exact ⟨j6 (xh9 HX.out).symm,bt hb hbq⟩
      ·have f1:(a.pg == b.pg)=true:=by simpa using e1
       have f2:(a.n == b.n)=true:=by simpa using e2
       have f3:(a.prot == b.prot)=false:=by simpa using e3
       clear e e1 e2 e3
       go_wp2
       refine wp_region_quiet_below (by kernel_rfl) (by kernel_rfl) ?_
       repeat (first|go_big_quiet_step ((fail))|quiet_step ((fail)))
       refine wpQuiet_nil ?_;intro wq hw';obtain ⟨⟨dq,osq⟩,hw''⟩:=hw';have hbr:=i9 hw'';clear hw''
       first
        |(have hbn:=bt hbq hbr;clear hcq hfq hzq hbq hbr;have hbq:=hbn;clear hbn)
        |(have hbq:=hbr;clear hbr)
       obtain ⟨hcq,hfq,hzq⟩:=q9 hbq
       go_wp2
       go_ret
       exact ⟨j6 (xh9 HX.out).symm,bt hb hbq⟩
     ·have f1:(a.pg == b.pg)=true:=by simpa using e1
      have f2:(a.n == b.n)=false:=by simpa using e2
      clear e e1 e2
      go_wp2
      refine wp_region_quiet_below (by kernel_rfl) (by kernel_rfl) ?_
      repeat (first|go_big_quiet_step ((fail))|quiet_step ((fail)))
      refine wpQuiet_nil ?_;intro wq hw';obtain ⟨⟨dq,osq⟩,hw''⟩:=hw';have hbr:=i9 hw'';clear hw''
      first
       |(have hbn:=bt hbq hbr;clear hcq hfq hzq hbq hbr;have hbq:=hbn;clear hbn)
       |(have hbq:=hbr;clear hbr)
      obtain ⟨hcq,hfq,hzq⟩:=q9 hbq
      go_wp2
      go_ret
      exact ⟨j6 (xh9 HX.out).symm,bt hb hbq⟩
    ·have f1:(a.pg == b.pg)=false:=by simpa using e1
     clear e e1
     go_wp2
     refine wp_region_quiet_below (by kernel_rfl) (by kernel_rfl) ?_
     repeat (first|go_big_quiet_step ((fail))|quiet_step ((fail)))
     refine wpQuiet_nil ?_;intro wq hw';obtain ⟨⟨dq,osq⟩,hw''⟩:=hw';have hbr:=i9 hw'';clear hw''
     first
      |(have hbn:=bt hbq hbr;clear hcq hfq hzq hbq hbr;have hbq:=hbn;clear hbn)
      |(have hbq:=hbr;clear hbr)
     obtain ⟨hcq,hfq,hzq⟩:=q9 hbq
     go_wp2
     go_ret
     exact ⟨j6 (xh9 HX.out).symm,bt hb hbq⟩
  ·go_wp2
   go_ret
   obtain rfl:i=A.length:=by omega
   exact ⟨j6 (xh7 (a55 HL.out fun j x y hx hy=>HO.out j x y (xa6.1 hx).1 hx hy)).symm,hb⟩
def tab:Tab:=[
 (3,.sc (.int .i64) 1 (.int .i64 0)),
 (27,.st 5 [(0,1,false),(1,1,false),(2,1,false),(3,1,false),(4,1,false)] [.slice none 0 0,.slice none 0 0,.slice none 0 0,.slice none 0 0,.int .i64 0]),
 (39,.sl 136 4 32 true [.int .i64 0,.int .i64 0,.int .i64 0,.bool false]),
 (136,.st 4 [(0,1,false),(1,1,false),(2,1,false),(3,1,false)] [.int .i64 0,.int .i64 0,.int .i64 0,.bool false]),
 (45,.st 7 [(0,5,true),(5,1,false),(6,1,false)] [.slice none 0 0,.slice none 0 0,.slice none 0 0,.slice none 0 0,.int .i64 0,.slice none 0 0,.slice none 0 0]),
 (137,.sl 145 2 24 true [.int .i64 0,.string ⟨#[]⟩]),
 (76,.sl 82 3 24 true [.int .i64 0,.int .i64 0,.int .i64 0]),
 (82,.st 3 [(0,1,false),(1,1,false),(2,1,false)] [.int .i64 0,.int .i64 0,.int .i64 0]),
 (9,.sc .string 1 (.string ⟨#[]⟩)),
 (78,.st 3 [(0,1,false),(1,1,false),(2,1,false)] [.bool false,.slice none 0 0,.slice none 0 0]),
 (145,.st 2 [(0,1,false),(1,1,false)] [.int .i64 0,.string ⟨#[]⟩]),
 (123,.st 13 [(0,8,true),(8,1,false),(9,1,false),(10,1,false),(11,2,true)] [.int .i64 0,.int .i64 0,.int .i64 0,.int .i64 0,.int .i64 0,.int .i64 0,.int .i64 0,.int .i64 0,.int .i64 0,.int .i64 0,.int .i64 0,.int .i64 0,.int .i64 0]),
 (25,.sl 78 3 56 true [.bool false,.slice none 0 0,.slice none 0 0]),
 (164,.st 5 [(0,1,false),(1,1,false),(2,1,false),(3,1,false),(4,1,false)] [.int .i64 0,.int .i64 0,.int .i64 0,.int .i64 0,.int .i64 0]),
 (99,.st 2 [(0,1,false),(1,1,false)] [.int .i64 0,.int .i64 0]),
 (41,.st 3 [(0,1,false),(1,1,false),(2,1,false)] [.slice none 0 0,.slice none 0 0,.int .i64 0]),
 (23,.sl 84 4 32 true [.string ⟨#[]⟩,.int .i64 0,.bool false,.bool false]),
 (42,.sl 123 13 104 true [.int .i64 0,.int .i64 0,.int .i64 0,.int .i64 0,.int .i64 0,.int .i64 0,.int .i64 0,.int .i64 0,.int .i64 0,.int .i64 0,.int .i64 0,.int .i64 0,.int .i64 0]),
 (142,.st 3 [(0,1,false),(1,1,false),(2,1,false)] [.int .i64 0,.string ⟨#[]⟩,.slice none 0 0]),
 (22,.sl 142 3 48 true [.int .i64 0,.string ⟨#[]⟩,.slice none 0 0]),
 (63,.st 4 [(0,1,false),(1,1,false),(2,1,false),(3,1,false)] [.int .i64 0,.slice none 0 0,.slice none 0 0,.slice none 0 0]),
 (139,.st 3 [(0,1,false),(1,1,false),(2,1,false)] [.bool false,.slice none 0 0,.slice none 0 0]),
 (24,.sl 88 2 24 true [.string ⟨#[]⟩,.int .i64 0]),
 (84,.st 4 [(0,1,false),(1,1,false),(2,1,false),(3,1,false)] [.string ⟨#[]⟩,.int .i64 0,.bool false,.bool false]),
 (43,.sl 120 2 16 true [.int .i64 0,.int .i64 0]),
 (61,.sl 139 3 56 true [.bool false,.slice none 0 0,.slice none 0 0]),
 (172,.st 6 [(0,1,false),(1,1,false),(2,1,false),(3,1,false),(4,1,false),(5,1,false)] [.string ⟨#[]⟩,.slice none 0 0,.slice none 0 0,.slice none 0 0,.slice none 0 0,.int .i64 0]),
 (121,.ar 8 8 1 false [.int .i64 0,.int .i64 0,.int .i64 0,.int .i64 0,.int .i64 0,.int .i64 0,.int .i64 0,.int .i64 0]),
 (4,.sc .bool 1 (.bool false)),
 (53,.sl 3 1 8 false [.int .i64 0]),
 (86,.st 7 [(0,5,true),(5,1,false),(6,1,false)] [.slice none 0 0,.slice none 0 0,.slice none 0 0,.slice none 0 0,.int .i64 0,.int .i64 0,.slice none 0 0]),
 (166,.st 5 [(0,1,false),(1,1,false),(2,1,false),(3,1,false),(4,1,false)] [.int .i64 0,.int .i64 0,.string ⟨#[]⟩,.bool false,.bool false]),
 (221,.st 5 [(0,1,false),(1,1,false),(2,1,false),(3,1,false),(4,1,false)] [.int .i64 0,.int .i64 0,.int .i64 0,.int .i64 0,.int .i64 0]),
 (140,.sl 156 2 24 true [.int .i64 0,.string ⟨#[]⟩]),
 (88,.st 2 [(0,1,false),(1,1,false)] [.string ⟨#[]⟩,.int .i64 0]),
 (188,.ar 256 256 1 false [.int .i64 0,.int .i64 0,.int .i64 0,.int .i64 0,.int .i64 0,.int .i64 0,.int .i64 0,.int .i64 0,.int .i64 0,.int .i64 0,.int .i64 0,.int .i64 0,.int .i64 0,.int .i64 0,.int .i64 0,.int .i64 0,.int .i64 0,.int .i64 0,.int .i64 0,.int .i64 0,.int .i64 0,.int .i64 0,.int .i64 0,.int .i64 0,.int .i64 0,.int .i64 0,.int .i64 0,.int .i64 0,.int .i64 0,.int .i64 0,.int .i64 0,.int .i64 0,.int .i64 0,.int .i64 0,.int .i64 0,.int .i64 0,.int .i64 0,.int .i64 0,.int .i64 0,.int .i64 0,.int .i64 0,.int .i64 0,.int .i64 0,.int .i64 0,.int .i64 0,.int .i64 0,.int .i64 0,.int .i64 0,.int .i64 0,.int .i64 0,.int .i64 0,.int .i64 0,.int .i64 0,.int .i64 0,.int .i64 0,.int .i64 0,.int .i64 0,.int .i64 0,.int .i64 0,.int .i64 0,.int .i64 0,.int .i64 0,.int .i64 0,.int .i64 0,.int .i64 0,.int .i64 0,.int .i64 0,.int .i64 0,.int .i64 0,.int .i64 0,.int .i64 0,.int .i64 0,.int .i64 0,.int .i64 0,.int .i64 0,.int .i64 0,.int .i64 0,.int .i64 0,.int .i64 0,.int .i64 0,.int .i64 0,.int .i64 0,.int .i64 0,.int .i64 0,.int .i64 0,.int .i64 0,.int .i64 0,.int .i64 0,.int .i64 0,.int .i64 0,.int .i64 0,.int .i64 0,.int .i64 0,.int .i64 0,.int .i64 0,.int .i64 0,.int .i64 0,.int .i64 0,.int .i64 0,.int .i64 0,.int .i64 0,.int .i64 0,.int .i64 0,.int .i64 0,.int .i64 0,.int .i64 0,.int .i64 0,.int .i64 0,.int .i64 0,.int .i64 0,.int .i64 0,.int .i64 0,.int .i64 0,.int .i64 0,.int .i64 0,.int .i64 0,.int .i64 0,.int .i64 0,.int .i64 0,.int .i64 0,.int .i64 0,.int .i64 0,.int .i64 0,.int .i64 0,.int .i64 0,.int .i64 0,.int .i64 0,.int .i64 0,.int .i64 0,.int .i64 0,.int .i64 0,.int .i64 0,.int .i64 0,.int .i64 0,.int .i64 0,.int .i64 0,.int .i64 0,.int .i64 0,.int .i64 0,.int .i64 0,.int .i64 0,.int .i64 0,.int .i64 0,.int .i64 0,.int .i64 0,.int .i64 0,.int .i64 0,.int .i64 0,.int .i64 0,.int .i64 0,.int .i64 0,.int .i64 0,.int .i64 0,.int .i64 0,.int .i64 0,.int .i64 0,.int .i64 0,.int .i64 0,.int .i64 0,.int .i64 0,.int .i64 0,.int .i64 0,.int .i64 0,.int .i64 0,.int .i64 0,.int .i64 0,.int .i64 0,.int .i64 0,.int .i64 0,.int .i64 0,.int .i64 0,.int .i64 0,.int .i64 0,.int .i64 0,.int .i64 0,.int .i64 0,.int .i64 0,.int .i64 0,.int .i64 0,.int .i64 0,.int .i64 0,.int .i64 0,.int .i64 0,.int .i64 0,.int .i64 0,.int .i64 0,.int .i64 0,.int .i64 0,.int .i64 0,.int .i64 0,.int .i64 0,.int .i64 0,.int .i64 0,.int .i64 0,.int .i64 0,.int .i64 0,.int .i64 0,.int .i64 0,.int .i64 0,.int .i64 0,.int .i64 0,.int .i64 0,.int .i64 0,.int .i64 0,.int .i64 0,.int .i64 0,.int .i64 0,.int .i64 0,.int .i64 0,.int .i64 0,.int .i64 0,.int .i64 0,.int .i64 0,.int .i64 0,.int .i64 0,.int .i64 0,.int .i64 0,.int .i64 0,.int .i64 0,.int .i64 0,.int .i64 0,.int .i64 0,.int .i64 0,.int .i64 0,.int .i64 0,.int .i64 0,.int .i64 0,.int .i64 0,.int .i64 0,.int .i64 0,.int .i64 0,.int .i64 0,.int .i64 0,.int .i64 0,.int .i64 0,.int .i64 0,.int .i64 0,.int .i64 0,.int .i64 0,.int .i64 0,.int .i64 0,.int .i64 0,.int .i64 0,.int .i64 0,.int .i64 0,.int .i64 0,.int .i64 0,.int .i64 0,.int .i64 0,.int .i64 0,.int .i64 0,.int .i64 0,.int .i64 0,.int .i64 0,.int .i64 0,.int .i64 0]),
 (71,.sc (.pointer 86) 1 (.pointer none)),
 (167,.sl 166 5 40 true [.int .i64 0,.int .i64 0,.string ⟨#[]⟩,.bool false,.bool false]),
 (179,.sl 5 1 1 false [.int .u8 0]),
 (216,.st 3 [(0,1,false),(1,1,false),(2,1,false)] [.nilIface,.slice none 0 0,.slice none 0 0]),
 (156,.st 2 [(0,1,false),(1,1,false)] [.int .i64 0,.string ⟨#[]⟩]),
 (202,.sl 268 7 56 true [.int .i64 0,.int .i64 0,.int .i64 0,.int .i64 0,.int .i64 0,.int .i64 0,.bool false]),
 (168,.sl 9 1 16 false [.string ⟨#[]⟩]),
 (250,.st 7 [(0,6,true),(6,1,false)] [.string ⟨#[]⟩,.slice none 0 0,.slice none 0 0,.slice none 0 0,.slice none 0 0,.int .i64 0,.int .i64 0]),
 (334,.st 3 [(0,1,false),(1,1,false),(2,1,false)] [.bool false,.bool false,.bool false]),
 (292,.st 2 [(0,1,false),(1,1,false)] [.int .i64 0,.slice none 0 0]),
 (375,.sc (.func #[145,145] #[3] false) 1 (.nilFunc)),
 (240,.sl 172 6 120 true [.string ⟨#[]⟩,.slice none 0 0,.slice none 0 0,.slice none 0 0,.slice none 0 0,.int .i64 0]),
 (300,.st 3 [(0,1,false),(1,1,false),(2,1,false)] [.int .i64 0,.string ⟨#[]⟩,.int .i64 0]),
 (246,.st 4 [(0,1,false),(1,1,false),(2,1,false),(3,1,false)] [.map none,.map none,.slice none 0 0,.int .i64 0]),
 (244,.sl 250 7 128 true [.string ⟨#[]⟩,.slice none 0 0,.slice none 0 0,.slice none 0 0,.slice none 0 0,.int .i64 0,.int .i64 0]),
 (5,.sc (.int .u8) 1 (.int .u8 0)),
 (336,.sc (.map 3 334) 1 (.map none)),
 (324,.st 2 [(0,1,false),(1,1,false)] [.string ⟨#[]⟩,.int .i64 0]),
 (95,.sc (.pointer 27) 1 (.pointer none)),
 (285,.sc (.int .u64) 1 (.int .u64 0)),
 (120,.st 2 [(0,1,false),(1,1,false)] [.int .i64 0,.int .i64 0]),
 (169,.sl 324 2 24 true [.string ⟨#[]⟩,.int .i64 0]),
 (392,.sc (.int .u64) 1 (.int .u64 0)),
 (210,.st 5 [(0,5,true)] [.slice none 0 0,.slice none 0 0,.slice none 0 0,.slice none 0 0,.int .i64 0]),
 (170,.sl 300 3 32 true [.int .i64 0,.string ⟨#[]⟩,.int .i64 0]),
 (196,.sl 202 1 24 false [.slice none 0 0]),
 (198,.st 4 [(0,1,false),(1,1,false),(2,1,false),(3,1,false)] [.pointer none,.slice none 0 0,.slice none 0 0,.int .i64 0]),
 (321,.sc (.int .u64) 1 (.int .u64 0)),
 (268,.st 7 [(0,3,true),(3,4,true)] [.int .i64 0,.int .i64 0,.int .i64 0,.int .i64 0,.int .i64 0,.int .i64 0,.bool false]),
 (195,.sc (.pointer 198) 1 (.pointer none)),
 (243,.sc (.map 9 3) 1 (.map none)),
 (396,.sc (.pointer 3) 1 (.pointer none)),
 (242,.sc (.map 9 172) 1 (.map none)),
 (288,.sc (.pointer 292) 1 (.pointer none)),
 (128,.sc (.pointer 216) 1 (.pointer none)),
 (208,.sc (.pointer 210) 1 (.pointer none)),
 (293,.sl 240 1 24 false [.slice none 0 0]),
 (307,.sl 39 1 24 false [.slice none 0 0]),
 (111,.sc (.func #[39] #[39,28] false) 1 (.nilFunc)),
 (297,.sc (.map 3 305) 1 (.map none)),
 (91,.sc (.func #[82] #[4] false) 1 (.nilFunc)),
 (241,.sc (.pointer 246) 1 (.pointer none)),
 (28,.sc (.int .i64) 1 (.int .i64 0)),
 (194,.sl 164 5 40 true [.int .i64 0,.int .i64 0,.int .i64 0,.int .i64 0,.int .i64 0]),
 (295,.sl 248 1 8 false [.nilFunc]),
 (21,.sc (.int .i32) 1 (.int .i32 0)),
 (359,.sc (.int .u32) 1 (.int .u32 0)),
 (79,.sc (.pointer 78) 1 (.pointer none)),
 (344,.sc (.func #[21] #[4] false) 1 (.nilFunc)),
 (130,.sc (.func #[128] #[28] false) 1 (.nilFunc)),
 (178,.sc (.func #[176,3,3] #[] false) 1 (.nilFunc)),
 (200,.sc (.func #[78] #[4] false) 1 (.nilFunc)),
 (259,.sc (.func #[82,3] #[3] false) 1 (.nilFunc)),
 (270,.sc (.func #[268] #[4] false) 1 (.nilFunc)),
 (218,.sc (.pointer 123) 1 (.pointer none)),
 (377,.sc (.func #[145] #[4] false) 1 (.nilFunc)),
 (248,.sc (.func #[172] #[28] false) 1 (.nilFunc)),
 (231,.sc (.pointer 45) 1 (.pointer none)),
 (252,.sc (.pointer 41) 1 (.pointer none)),
 (176,.sc (.pointer 84) 1 (.pointer none)),
 (257,.sc (.func #[136,3] #[3] false) 1 (.nilFunc)),
 (261,.sc (.func #[142,3] #[3] false) 1 (.nilFunc)),
 (331,.sc (.func #[84] #[4] false) 1 (.nilFunc)),
 (349,.sc (.func #[88] #[4] false) 1 (.nilFunc)),
 (379,.sc (.func #[145,3] #[3] false) 1 (.nilFunc))]
theorem a4:TabOk Tryz.prog tab:=by
 unfold tab
 repeat (first|exact TabOk.nil _|refine TabOk.cons (by kernel_rfl) (by rfl) ?_)
section
variable {P:Program} {n:Nat} {ds:List Deferred} {E:Fr} {w:World} {Q:Exit->Act->World->Prop} {ops:Array Oper} {rest:List Oper} {d:Nat} {dst:Option Nat} {ty:TypeId} {pos:String} {after:Array Edge} {F:Nat->Prop} {w0:World} {Γ:List Asr} {T:Tab}
theorem a6p (hS:St F w0 w Γ) (hT:TabOk P T) {t e sz eb i:Nat} {ag:Bool} {ez:List Value} {x y:Operand} {v u:Value} {rows news:List (List Value)} (ht:T.get t=some (.sl e sz eb ag ez)) (hx:E.ev x=some v) (hi:Γ[i]?=some (.row e sz v rows)) (hy:E.ev y=some u)
  (hn:Sl nF w sz u news) (hbig:(rows.length + news.length) * (eb + 1)<=140737488355328) :
  Gets P ⟨dst,.call { callee:=.builtin .append,args:=#[x,y],argTypes:=#[t,t] },ty,pos,after,none⟩ n ds E w (fun v' w'=>∃ p cap,v'=.slice p (rows.length + news.length) cap/\St F w0 w' (Γ.set i (.row e sz (.slice p (rows.length + news.length) cap) (rows++news)))):=by
 rcases hn with ⟨p,c,rfl,rfl⟩|⟨b,off,cap,rfl,h2,h3,h4⟩
 ·cases p with
  |none=>
   intro a ha K Q k;obtain ⟨ji,zv,hu,hinfo,_⟩:=hT.sl ht;obtain ⟨ho,hlen,hone⟩:=hS.at_ hi;have e1:Builtin.append_ #[t,t] ty #[v,.slice none 0 c]=Builtin.append_ #[t,t] ty #[v,.slice none 0 0]:=rfl;have hr:=run_append_owned_none (P:=P) w 0 t ty e ji sz hu hinfo v _ _ ho;have hex:(execOp a.eval ⟨dst,.call { callee:=.builtin .append,args:=#[x,y],argTypes:=#[t,t] },ty,pos,after,none⟩).run P w=.ok (.value v) w:=by
    simp [execOp,resolve,invoke,builtin,ha.ev hx,ha.ev hy,e1,hr,Result.andThen]
   unfold Oper.wp;rw [hex];obtain ⟨p,cap,hv⟩:=hS.rowSlice i hi;subst hv;refine k _ _ ⟨p,cap,rfl,?_⟩;rw [xk0];exact hS.upd hi (World.grownBy.refl _ _) ⟨ho,hlen,hone⟩ (fun q hq=>xc7 hq)
  |some a0=>
   intro a ha K Q k;obtain ⟨ji,zv,hu,hinfo,_,hs,hby,hz,hzl,_,hsz,hs0⟩:=hT.sl ht;obtain ⟨ho,hlen,hone⟩:=hS.at_ hi;have hb1:rows.length * eb + rows.length<=140737488355328:=by rw [xa2,xe9,Nat.mul_succ] at hbig;exact hbig
   obtain ⟨v',w',hrun,hown,hg,_,hat⟩:=run_append_own_at (P:=P) w 0 t ty e ji zv sz eb hu hinfo hz hs hby (by rw [<- xf5,hzl,hsz]) (xf3 hs0) v rows.length rows.flatten ho a0 0 c [] (by simp) (fun j u hu=>by simp at hu) (by simp) (by unfold maxLen;omega) (by rw [xe9];omega) (xf0 _);have hex:(execOp a.eval ⟨dst,.call { callee:=.builtin .append,args:=#[x,y],argTypes:=#[t,t] },ty,pos,after,none⟩).run P w=.ok (.value v') w':=by
    simp [execOp,resolve,invoke,builtin,ha.ev hx,ha.ev hy,hrun,Result.andThen]
   unfold Oper.wp;rw [hex];rw [xe9,xk0] at hown;have hown':(Asr.row e sz v' rows).holds w':=⟨hown,hlen,hone⟩;obtain ⟨p,cap,hv'⟩:∃ p cap,v'=.slice p rows.length cap:=by
    rcases hown.2 with ⟨rfl,h0⟩|⟨g,cap,cur,rfl,_⟩
    ·exact ⟨none,0,by rw [h0]⟩
    ·exact ⟨_,_,rfl⟩
   subst hv';refine k _ _ ⟨p,cap,rfl,?_⟩;rw [xk0];refine hS.upd hi hg hown' fun q hq=>?_;rcases hat with h|h
   ·exact xc7 (h.symm.trans hq)
   ·have:some w.heap.size=some q:=h.symm.trans hq
    cases this
    exact xc4 (xc5 _)
 ·exact a0W hS hT ht hx hi hy h4 rfl hbig
theorem a3e (hS:St F w0 w Γ) (hT:TabOk P T) {t e sz eb:Nat} (i:Nat) {ag:Bool} {ez:List Value} {x y:Operand} {v u:Value} {rows news:List (List Value)} (ht:T.get t=some (.sl e sz eb ag ez)) (hx:E.ev x=some v) (hi:Γ[i]?=some (.row e sz v rows)) (hy:E.ev y=some u)
  (hn:Sl nF w sz u news) (hbig:(rows.length + news.length) * (eb + 1)<=140737488355328) (hd:Nat.blt d n=true) (k:∀ p cap w',St F w0 w' (Γ.set i (.row e sz (.slice p (rows.length + news.length) cap) (rows++news)))->WL P ops Q rest n ds ((d,.slice p (rows.length + news.length) cap)::E) w'):WL P ops Q (⟨some d,.call { callee:=.builtin .append,args:=#[x,y],argTypes:=#[t,t] },ty,pos,after,none⟩::rest) n ds E w :=
 a1f hd (a6p hS hT ht hx hi hy hn hbig) (by rintro _ w' ⟨p,cap,rfl,h⟩;exact k p cap w' h)
theorem b1l {t yt:TypeId} {x y:Operand} {m k:Int} (hx:E.ev x=some (.int .i64 m)) (hy:E.ev y=some (.int .i64 k)) (h3:0 < k):∀ a,Has n ds a E->∀ dst,x7 P ⟨dst,.binOp .rem t x y yt,ty,pos,after,none⟩ a (.int .i64 (m.tmod k)):=fun a ha _ w=>by
 have hk:¬ k=0:=by omega
 simp [execOp,ha.ev hx,ha.ev hy,eqGuard,binOp,Op.intDiv,hk]
theorem a1F {t yt:TypeId} {x y:Operand} {m k:Int} (hx:E.ev x=some (.int .i64 m)) (hy:E.ev y=some (.int .i64 k)) (h3:0 < k) (hd:Nat.blt d n=true) (k':WL P ops Q rest n ds ((d,.int .i64 (m.tmod k))::E) w):WL P ops Q (⟨some d,.binOp .rem t x y yt,ty,pos,after,none⟩::rest) n ds E w:=x9 (fun a ha=>b1l hx hy h3 a ha _) hd k'
end
section
variable {P:Program} {n:Nat} {ds:List Deferred} {E:Fr} {w:World} {Q:Exit->Act->World->Prop} {ops:Array Oper} {S:World->Prop} {fuel:Nat} {li:Array Bool} {d:Nat} {op:Op} {ty:TypeId} {pos:String} {after:Array Edge} {F:Nat->Prop} {w0:World} {Γ:List Asr} {T:Tab}
def WA (P:Program) (ops:Array Oper) (Q:Exit->Act->World->Prop) (S:World->Prop) (fuel:Nat) (li:Array Bool) (n:Nat) (ds:List Deferred) (E:Fr) (w:World):Prop:=∀ a,Has n ds a E->wpAnyH P .any ops Q S fuel li a w
def WO (P:Program) (ops:Array Oper) (Q:Exit->Act->World->Prop) (S:World->Prop) (fuel:Nat) (li:Array Bool) (n:Nat) (ds:List Deferred) (E:Fr) (w:World) (i:Nat):Prop:=∀ a,Has n ds a E->wpOp P ops Q i (fun a' w'=>S w'/\wpAnyH P .any ops Q S fuel (li.setIfInBounds i true) a' w') a w
theorem a5J (S:World->Prop) {id:Nat} {l:List Oper} (m:Nat) (hl:l.length=m) (hS:St F w0 w Γ) (hm:P.follows .mixedOrders=true) (h:∀ w1,St F w0 w1 Γ->WA P l.toArray Q S m (Array.replicate m false) n ds E w1):WC P (.region id l.toArray true) Q n ds E w:=fun a ha=>by
 subst hl;exact wp_region_held (S:=S) hm (h { w with drawn:=w.drawn + 1 } (hS.grow ⟨rfl,rfl,rfl,xc5 _,fun _ _ _=>rfl⟩) a ha)
theorem a0v (hr:Region.ready .any ops li=[]) (h:WQ Q .normal n ds E w):WA P ops Q S fuel li n ds E w:=fun a ha=>wpAnyH_done hr (h a ha) fuel
theorem b18 {i:Nat} (_C:Nn i) {v:Value} (hT:TabOk P T) (hi:ops[i]?=some ⟨some d,op,ty,pos,after,none⟩) (hs:Region.noSelect ops=true) (hf:Region.free .any ops li i=true) (hr:(Region.ready .any ops li).contains i=true)
  (hQ:∀ c (a:Act) w,Q (.panic c) (a.put (some d) v) w->Q (.panic c) a w) (hS:S w) (hv:m6 T E op=some v) (hd:Nat.blt d n=true) (k:WA P ops Q S fuel (li.setIfInBounds i true) n ds ((d,v)::E) w):WA P ops Q S (fuel + 1) li n ds E w:=fun a ha=>
 wpAnyH_take hi hs hf hr hQ (xc7 ⟨rfl,fun w _=>t9 hT ha hv w⟩) hS (k _ (ha.put d v hd))
theorem b0w {i:Nat} (_C:Nn i) {t:TypeId} {x:Operand} {p:Addr} {v:Value} (hi:ops[i]?=some ⟨some d,.load t x,ty,pos,after,none⟩) (hs:Region.noSelect ops=true) (hf:Region.free .any ops li i=true) (hr:(Region.ready .any ops li).contains i=true)
  (hQ:∀ c (a:Act) w,Q (.panic c) (a.put (some d) v) w->Q (.panic c) a w) (hS:S w) (hx:E.ev x=some (.pointer (some p))) (hl:∀ w,S w->Ld P t p v w) (hd:Nat.blt d n=true) (k:WA P ops Q S fuel (li.setIfInBounds i true) n ds ((d,v)::E) w):WA P ops Q S (fuel + 1) li n ds E w:=fun a ha=>
 wpAnyH_take hi hs hf hr hQ (xc7 ⟨rfl,fun w hw=>by
  have h:=hl w hw;unfold Ld at h;simp only [execOp,ha.ev hx,Instr.loadAt,Instr.sureAddr,Sem.run_bind,Sem.run_pure,Result.andThen_ok,h]⟩) hS (k _ (ha.put d v hd))
theorem s7 {i:Nat} (hr:Region.ready .any ops li=[i]) (h:WO P ops Q S fuel li n ds E w i):WA P ops Q S (fuel + 1) li n ds E w:=fun a ha=>
 wpAnyH_all hr (by simp) (fun j hj=>by
  have:j=i:=by simpa using hj
  subst this;exact h a ha)
theorem a5t {i j:Nat} (hr:Region.ready .any ops li=[i,j]) (h1:WO P ops Q S fuel li n ds E w i) (h2:WO P ops Q S fuel li n ds E w j):WA P ops Q S (fuel + 1) li n ds E w:=fun a ha=>
 wpAnyH_all hr (by simp) (fun k hk=>by
  have:k=i\/k=j:=by simpa using hk
  rcases this with rfl|rfl
  ·exact h1 a ha
  ·exact h2 a ha)
theorem o8 {i:Nat} {Φ:Value->World->Prop} (hi:ops[i]?=some ⟨some d,op,ty,pos,after,none⟩) (h:Gets P ⟨some d,op,ty,pos,after,none⟩ n ds E w Φ) (hd:Nat.blt d n=true) (k:∀ v w',Φ v w'->S w'/\WA P ops Q S fuel (li.setIfInBounds i true) n ds ((d,v)::E) w'):WO P ops Q S fuel li n ds E w i:=fun a ha=>by
 unfold wpOp;simp only [hi];rw [xd8 (show Region.wanted _ _=true from rfl)];exact xc7 (h a ha _ _ fun v w' hv=>⟨(k v w' hv).1,(k v w' hv).2 _ (ha.put d v hd)⟩)
theorem t4 {i:Nat} {Φ:Value->World->Prop} (hi:ops[i]?=some ⟨none,op,ty,pos,after,none⟩) (h:Gets P ⟨none,op,ty,pos,after,none⟩ n ds E w Φ) (k:∀ v w',Φ v w'->S w'/\WA P ops Q S fuel (li.setIfInBounds i true) n ds E w'):WO P ops Q S fuel li n ds E w i:=fun a ha=>by
 unfold wpOp;simp only [hi];rw [xd8 (show Region.wanted _ _=true from rfl)];exact xc7 (h a ha _ _ fun v w' hv=>⟨(k v w' hv).1,(k v w' hv).2 _ ha⟩)
end
def RP (c:List PanicEntry) (Φ:Value->World->Prop) (Ψ:World->Prop) (e:Ending) (w':World):Prop:=(∃ v,e=.returned v/\Φ v w')\/(e=.panicked c/\Ψ w')
structure FnP (P:Program) (f:FuncId) (args:List Value) (w:World) (c:List PanicEntry) (Φ:Value->World->Prop) (Ψ:World->Prop):Prop where
 ok:∃ fn,m9 P f fn
 calls:Calls P f args.toArray w (RP c Φ Ψ)
section
variable {P:Program} {n:Nat} {ds:List Deferred} {E:Fr} {w:World} {Q:Exit->Act->World->Prop} {ops:Array Oper} {rest:List Oper} {d:Nat} {dst:Option Nat} {op:Op} {ty:TypeId} {pos:String} {after:Array Edge} {T:Tab} {c:List PanicEntry}
theorem FnP.mono {f:FuncId} {args:List Value} {Φ Φ':Value->World->Prop} {Ψ Ψ':World->Prop} (h:FnP P f args w c Φ Ψ) (h1:∀ v w',Φ v w'->Φ' v w') (h2:∀ w',Ψ w'->Ψ' w'):FnP P f args w c Φ' Ψ' :=
 ⟨h.ok,h.calls.mono fun _ _ h=>by
  rcases h with ⟨v,e,hv⟩|⟨e,hw⟩
  ·exact xc7 ⟨v,e,h1 v _ hv⟩
  ·exact xc4 ⟨e,h2 _ hw⟩⟩
end
section
variable {P:Program} {n:Nat} {E:Fr} {w:World} {c:List PanicEntry} {fn:Func} {Φ:Value->World->Prop} {Ψ:World->Prop} {v v1 v2:Value}
end
section
variable {P:Program} {n:Nat} {ds:List Deferred} {E:Fr} {w:World} {Q:Exit->Act->World->Prop} {ops:Array Oper} {rest:List Oper} {d:Nat} {dst:Option Nat} {op:Op} {ty:TypeId} {pos:String} {after:Array Edge} {T:Tab}
theorem a5c (l:List UInt8) (a b:Nat):(⟨l.toArray⟩:ByteArray).extract a b=⟨((l.drop a).take (b - a)).toArray⟩:=ByteArray.extract_mk l a b
end
section
variable {P:Program} {n:Nat} {E:Fr} {w:World} {fn:Func} {Φ:Value->World->Prop}
end
section
variable {P:Program} {ops:Array Oper} {Q:Exit->Act->World->Prop} {S:World->Prop} {q:Nat}
def a1c (P:Program) (ops:Array Oper) (Q:Exit->Act->World->Prop) (S:World->Prop) (q:Nat):Nat->Array Bool->Act->World->Prop
 |0,li,a,w=>Region.ready .any ops li=[]/\Q .normal a w
 |fuel + 1,li,a,w=>(Region.ready .any ops li=[]->Q .normal a w)/\∀ i ∈ Region.ready .any ops li,wpOp P ops Q i (fun a' w'=>(i=q\/li.getD q false=true\/S w')/\a1c P ops Q S q fuel (li.setIfInBounds i true) a' w') a w
theorem a4I:∀ (fuel:Nat) (li:Array Bool) (a:Act) (w:World),a1c P ops Q S q fuel li a w->wpAny P .any ops Q fuel li a w
 |0,_,_,_,h=>h
 |fuel + 1,_,_,_,h=>⟨h.1,fun i hi=>wpOp_mono (fun a' w' h'=>a4I fuel _ a' w' h'.2) (h.2 i hi)⟩
theorem a5A {i:Nat} {oi oq:Oper} {v:Value} (hi:ops[i]?=some oi) (hsel:∀ (j:Nat) (o:Oper) cs b,ops[j]?=some o->o.op≠.select cs b)
  (hQ:∀ c a w,Q (.panic c) (a.put oi.dst v) w->Q (.panic c) a w) (hoq:ops[q]?=some oq) (hq:∃ e ∈ oq.after,Region.binds .any e=true/\e.on=i) (hqi:q≠i) :
  ∀ (fuel:Nat) (li:Array Bool) (a:Act) (w:World),
   (∀ j oj,ops[j]?=some oj->j≠i->li.getD j true=false->(∀ e ∈ oj.after,Region.binds .any e=true->e.on≠i)->oi.apart ops oj=true) ->
   i ∈ Region.ready .any ops li->li.getD q false=false->YieldsIf P ops S oi v a->S w ->
   a1c P ops Q S q fuel (li.setIfInBounds i true) (a.put oi.dst v) w->a1c P ops Q S q (fuel + 1) li a w:=by
 intro fuel;have step:∀ (li:Array Bool) (j:Nat),i ∈ Region.ready .any ops li->j ∈ Region.ready .any ops li->∀ oj,ops[j]?=some oj->∀ e ∈ oj.after,Region.binds .any e=true->e.on≠i:=by
  intro li j hr hj oj hoj e he hb heq;obtain ⟨_,o,ho,hall⟩:=mem_ready.1 hj;rw [hoj] at ho
  cases ho
  have h1:=hall e he hb;have h0:=(mem_ready.1 hr).1;rw [heq] at h1;rcases xg7 i li.size with h'|h'
  ·simp [h'] at h0 h1;rw [h0] at h1;cases h1
  ·simp [xg8 h'] at h1
 have notq:∀ (li:Array Bool) (j:Nat),i ∈ Region.ready .any ops li->j ∈ Region.ready .any ops li->j≠q:=by
  rintro li j hr hj rfl;obtain ⟨e,he,hb,heq⟩:=hq;exact step li _ hr hj oq hoq e he hb heq
 induction fuel with
 |zero=>
  intro li a w _ hr hnq hy hS H;refine ⟨fun h=>(by rw [h] at hr;cases hr),fun j hj=>?_⟩;by_cases hji:j=i
  ·subst hji;exact hy.wpOp hi hS ⟨xc4 (xc4 hS),H⟩
  ·have:=ready_mono hj hji;rw [H.1] at this
   cases this
 |succ fuel ih=>
  intro li a w hfree hr hnq hy hS H;refine ⟨fun h=>(by rw [h] at hr;cases hr),fun j hj=>?_⟩;by_cases hji:j=i
  ·subst hji;exact hy.wpOp hi hS ⟨xc4 (xc4 hS),H⟩
  ·have hjq:=notq li j hr hj;have h1:=H.2 j (ready_mono hj hji);obtain ⟨hjun,oj,hoj,_⟩:=mem_ready.1 hj;have h2:=wpOp_putIf hoj (hfree j oj hoj hji hjun (step li j hr hj oj hoj)) (fun cs b=>hsel i oi cs b hi) (fun cs b=>hsel j oj cs b hoj) hQ hy h1;have hfree':∀ k ok,ops[k]?=some ok->k≠i->(li.setIfInBounds j true).getD k true=false ->
     (∀ e ∈ ok.after,Region.binds .any e=true->e.on≠i)->oi.apart ops ok=true:=fun k ok hk hki hun hno=>by
    refine hfree k ok hk hki ?_ hno;by_cases hjk:j=k
    ·subst hjk;exact hjun
    ·rw [getD_set_ne true hjk] at hun;exact hun
   have hnq':(li.setIfInBounds j true).getD q false=false:=by rw [getD_set_ne false hjq];exact hnq
   have hnq2:(li.setIfInBounds i true).getD q false=false:=by rw [getD_set_ne false (Ne.symm hqi)];exact hnq
   refine wpOp_mono (fun a' w' h3=>?_) h2;have hS':S w':=by
    rcases h3.2.1 with h|h|h
    ·exact (hjq h).elim
    ·rw [hnq2] at h;cases h
    ·exact h
   refine ⟨xc4 (xc4 hS'),ih (li.setIfInBounds j true) a' w' hfree' (ready_mono hr (Ne.symm hji)) hnq' h3.1 hS' ?_⟩;rw [xk1 _ _ hji];exact h3.2.2
theorem a3X {i:Nat} {oi:Oper} {v:Value} (hi:ops[i]?=some oi) (hsel:∀ (j:Nat) (o:Oper) cs b,ops[j]?=some o->o.op≠.select cs b)
  (hQ:∀ c a w,Q (.panic c) (a.put oi.dst v) w->Q (.panic c) a w) (hqi:q≠i) :
  ∀ (fuel:Nat) (li:Array Bool) (a:Act) (w:World),
   (∀ j oj,ops[j]?=some oj->j≠i->li.getD j true=false->(∀ e ∈ oj.after,Region.binds .any e=true->e.on≠i)->oi.apart ops oj=true) ->
   i ∈ Region.ready .any ops li->(li.getD q false=true\/S w)->YieldsIf P ops (fun _=>True) oi v a ->
   a1c P ops Q S q fuel (li.setIfInBounds i true) (a.put oi.dst v) w->a1c P ops Q S q (fuel + 1) li a w:=by
 intro fuel;have step:∀ (li:Array Bool) (j:Nat),i ∈ Region.ready .any ops li->j ∈ Region.ready .any ops li->∀ oj,ops[j]?=some oj->∀ e ∈ oj.after,Region.binds .any e=true->e.on≠i:=by
  intro li j hr hj oj hoj e he hb heq;obtain ⟨_,o,ho,hall⟩:=mem_ready.1 hj;rw [hoj] at ho
  cases ho
  have h1:=hall e he hb;have h0:=(mem_ready.1 hr).1;rw [heq] at h1;rcases xg7 i li.size with h'|h'
  ·simp [h'] at h0 h1;rw [h0] at h1;cases h1
  ·simp [xg8 h'] at h1
 induction fuel with
 |zero=>
  intro li a w _ hr hS hy H;refine ⟨fun h=>(by rw [h] at hr;cases hr),fun j hj=>?_⟩;by_cases hji:j=i
  ·subst hji;exact hy.wpOp hi trivial ⟨xc4 hS,H⟩
  ·have:=ready_mono hj hji;rw [H.1] at this
   cases this
 |succ fuel ih=>
  intro li a w hfree hr hS hy H;refine ⟨fun h=>(by rw [h] at hr;cases hr),fun j hj=>?_⟩;by_cases hji:j=i
  ·subst hji;exact hy.wpOp hi trivial ⟨xc4 hS,H⟩
  ·have h1:=H.2 j (ready_mono hj hji);obtain ⟨hjun,oj,hoj,_⟩:=mem_ready.1 hj;have h2:=wpOp_putIf hoj (hfree j oj hoj hji hjun (step li j hr hj oj hoj)) (fun cs b=>hsel i oi cs b hi) (fun cs b=>hsel j oj cs b hoj) hQ hy h1;have hfree':∀ k ok,ops[k]?=some ok->k≠i->(li.setIfInBounds j true).getD k true=false ->
     (∀ e ∈ ok.after,Region.binds .any e=true->e.on≠i)->oi.apart ops ok=true:=fun k ok hk hki hun hno=>by
    refine hfree k ok hk hki ?_ hno;by_cases hjk:j=k
    ·subst hjk;exact hjun
    ·rw [getD_set_ne true hjk] at hun;exact hun
   refine wpOp_mono (fun a' w' h3=>?_) h2;have hS':j=q\/li.getD q false=true\/S w':=by
    rcases h3.2.1 with h|h|h
    ·exact xc7 h
    ·rw [getD_set_ne false (Ne.symm hqi)] at h;exact xc4 (xc7 h)
    ·exact xc4 (xc4 h)
   have hS2:(li.setIfInBounds j true).getD q false=true\/S w':=by
    rcases hS' with h|h|h
    ·left;subst h;have hjl:j < li.size:=by
      rcases xg7 j li.size with h'|h'
      ·exact h'
      ·simp [xg8 h'] at hjun
     simp [hjl]
    ·exact xc7 (getD_set_true h)
    ·exact xc4 h
   refine ⟨hS',ih (li.setIfInBounds j true) a' w' hfree' (ready_mono hr (Ne.symm hji)) hS2 h3.1 ?_⟩;rw [xk1 _ _ hji];exact h3.2.2
end
section
variable {P:Program} {n:Nat} {ds:List Deferred} {E:Fr} {w:World} {Q:Exit->Act->World->Prop} {ops:Array Oper} {S:World->Prop} {q fuel:Nat} {li:Array Bool} {d:Nat} {op:Op} {ty:TypeId} {pos:String} {after:Array Edge} {F:Nat->Prop} {w0:World} {Γ:List Asr} {T:Tab} {c:List PanicEntry}
def WT (P:Program) (ops:Array Oper) (Q:Exit->Act->World->Prop) (S:World->Prop) (q fuel:Nat) (li:Array Bool) (n:Nat) (ds:List Deferred) (E:Fr) (w:World):Prop:=∀ a,Has n ds a E->a1c P ops Q S q fuel li a w
def WP (P:Program) (ops:Array Oper) (Q:Exit->Act->World->Prop) (S:World->Prop) (q fuel:Nat) (li:Array Bool) (n:Nat) (ds:List Deferred) (E:Fr) (w:World) (i:Nat):Prop:=∀ a,Has n ds a E->wpOp P ops Q i (fun a' w'=>(i=q\/li.getD q false=true\/S w')/\a1c P ops Q S q fuel (li.setIfInBounds i true) a' w') a w
theorem b16 (S:World->Prop) (q:Nat) {id:Nat} {l:List Oper} (m:Nat) (hl:l.length=m) (hS:St F w0 w Γ) (hm:P.follows .mixedOrders=true) (h:∀ w1,St F w0 w1 Γ->WT P l.toArray Q S q m (Array.replicate m false) n ds E w1):WC P (.region id l.toArray true) Q n ds E w:=fun a ha=>by
 subst hl;exact wp_region_any hm (a4I _ _ _ _ (h { w with drawn:=w.drawn + 1 } (hS.grow ⟨rfl,rfl,rfl,xc5 _,fun _ _ _=>rfl⟩) a ha))
def t8 (ops:Array Oper) (q i:Nat):Bool:=match ops[q]? with
 |some o=>o.after.toList.any (fun e=>Region.binds .any e && Nat.beq e.on i)
 |none=>false
theorem a44 {q i:Nat} (h:t8 ops q i=true):∃ oq,ops[q]?=some oq/\∃ e ∈ oq.after,Region.binds .any e=true/\e.on=i:=by
 unfold t8 at h
 split at h
 ·rename_i o ho;obtain ⟨e,he,h2⟩:=xg6.1 h;simp only [xb7] at h2;exact ⟨o,ho,e,by simpa using he,h2.1,xa9 h2.2⟩
 ·cases h
theorem b0d {i:Nat} (_C:Nn i) {t:TypeId} {x:Operand} {p:Addr} {v:Value} (hi:ops[i]?=some ⟨some d,.load t x,ty,pos,after,none⟩) (hs:Region.noSelect ops=true) (hf:Region.free .any ops li i=true) (hr:(Region.ready .any ops li).contains i=true) (hw:t8 ops q i=true) (hqi:Nat.beq q i=false) (hnq:li.getD q false=false)
  (hQ:∀ c (a:Act) w,Q (.panic c) (a.put (some d) v) w->Q (.panic c) a w) (hS:S w) (hx:E.ev x=some (.pointer (some p))) (hl:∀ w,S w->Ld P t p v w) (hd:Nat.blt d n=true) (k:WT P ops Q S q fuel (li.setIfInBounds i true) n ds ((d,v)::E) w):WT P ops Q S q (fuel + 1) li n ds E w:=fun a ha=>by
 obtain ⟨oq,hoq,hq⟩:=a44 hw;refine a5A hi (Region.noSelect_spec hs) hQ hoq hq (fun e=>by subst e;rw [xg9] at hqi;cases hqi) fuel li a w (Region.free_spec hi hf) (by simpa using hr) hnq (xc7 ⟨rfl,fun w hw=>?_⟩) hS (k _ (ha.put d v hd));have h:=hl w hw;unfold Ld at h;simp only [execOp,ha.ev hx,Instr.loadAt,Instr.sureAddr,Sem.run_bind,Sem.run_pure,Result.andThen_ok,h]
theorem b1J {i:Nat} (_C:Nn i) {v:Value} (hT:TabOk P T) (hi:ops[i]?=some ⟨some d,op,ty,pos,after,none⟩) (hs:Region.noSelect ops=true) (hf:Region.free .any ops li i=true) (hr:(Region.ready .any ops li).contains i=true) (hqi:Nat.beq q i=false)
  (hQ:∀ c (a:Act) w,Q (.panic c) (a.put (some d) v) w->Q (.panic c) a w) (hS:li.getD q false=true\/S w) (hv:m6 T E op=some v) (hd:Nat.blt d n=true) (k:WT P ops Q S q fuel (li.setIfInBounds i true) n ds ((d,v)::E) w):WT P ops Q S q (fuel + 1) li n ds E w:=fun a ha=>
 a3X hi (Region.noSelect_spec hs) hQ (fun e=>by subst e;rw [xg9] at hqi;cases hqi) fuel li a w (Region.free_spec hi hf) (by simpa using hr) hS (xc7 ⟨rfl,fun w _=>t9 hT ha hv w⟩) (k _ (ha.put d v hd))
theorem a6V {i:Nat} (hr:Region.ready .any ops li=[i]) (h:WP P ops Q S q fuel li n ds E w i):WT P ops Q S q (fuel + 1) li n ds E w:=fun a ha=>
 ⟨fun h0=>(by rw [hr] at h0;cases h0),fun j hj=>by
  rw [hr] at hj;have:j=i:=by simpa using hj
  subst this;exact h a ha⟩
theorem b1v (hr:Region.ready .any ops li=[]) (h:WQ Q .normal n ds E w):WT P ops Q S q fuel li n ds E w:=fun a ha=>by
 cases fuel with
 |zero=>exact ⟨hr,h a ha⟩
 |succ f=>exact ⟨fun _=>h a ha,by rw [hr];simp⟩
theorem a5L {i:Nat} {Φ:Value->World->Prop} (hi:ops[i]?=some ⟨some d,op,ty,pos,after,none⟩) (h:Gets P ⟨some d,op,ty,pos,after,none⟩ n ds E w Φ) (hd:Nat.blt d n=true) (k:∀ v w',Φ v w'->(i=q\/li.getD q false=true\/S w')/\WT P ops Q S q fuel (li.setIfInBounds i true) n ds ((d,v)::E) w'):WP P ops Q S q fuel li n ds E w i:=fun a ha=>by
 unfold wpOp;simp only [hi];rw [xd8 (show Region.wanted _ _=true from rfl)];exact xc7 (h a ha _ _ fun v w' hv=>⟨(k v w' hv).1,(k v w' hv).2 _ (ha.put d v hd)⟩)
theorem a9T {i:Nat} {Φ:Value->World->Prop} (hi:ops[i]?=some ⟨none,op,ty,pos,after,none⟩) (h:Gets P ⟨none,op,ty,pos,after,none⟩ n ds E w Φ) (k:∀ v w',Φ v w'->(i=q\/li.getD q false=true\/S w')/\WT P ops Q S q fuel (li.setIfInBounds i true) n ds E w'):WP P ops Q S q fuel li n ds E w i:=fun a ha=>by
 unfold wpOp;simp only [hi];rw [xd8 (show Region.wanted _ _=true from rfl)];exact xc7 (h a ha _ _ fun v w' hv=>⟨(k v w' hv).1,(k v w' hv).2 _ ha⟩)
end
inductive Dn:Prop->Prop->Prop where
 |a {P:Program} {n:Nat} {ds:List Deferred} {E:Fr} {w:World} {Q:Exit->Act->World->Prop} {x y:Code}:Dn (WC P (.seq x y) Q n ds E w) (WC P x (Exit.then (y.wp P Q) Q) n ds E w)
 |b {P:Program} {n:Nat} {ds:List Deferred} {E:Fr} {w:World} {Q:Exit->Act->World->Prop} {i:Nat} {l:List Oper}:Dn (WC P (.region i l.toArray false) Q n ds E w) (WL P l.toArray Q l n ds E w)
 |c {P:Program} {n:Nat} {ds:List Deferred} {E:Fr} {w:World} {Q:Exit->Act->World->Prop} {ops:Array Oper}:Dn (WL P ops Q [] n ds E w) (WQ Q .normal n ds E w)
 |d {P:Program} {n:Nat} {ds:List Deferred} {E:Fr} {w:World} {Q:Exit->Act->World->Prop} {y:Code} {Q2:Exit->Act->World->Prop}:Dn (WQ (Exit.then (y.wp P Q2) Q) .normal n ds E w) (WC P y Q2 n ds E w)
 |e {P:Program} {n:Nat} {ds:List Deferred} {E:Fr} {w:World} {Q:Exit->Act->World->Prop}:Dn (WC P .skip Q n ds E w) (WQ Q .normal n ds E w)
 |f {P:Program} {n:Nat} {ds:List Deferred} {E:Fr} {w:World} {Q:Exit->Act->World->Prop} {i:Nat} {c:Code}:Dn (WC P (.block i c) Q n ds E w) (WC P c (Exit.inBlock i Q) n ds E w)
 |g {P:Program} {n:Nat} {ds:List Deferred} {E:Fr} {w:World} {Q:Exit->Act->World->Prop} {i:Nat}:Dn (WC P (.exit i) Q n ds E w) (WQ Q (.exit i) n ds E w)
 |h {P:Program} {n:Nat} {ds:List Deferred} {E:Fr} {w:World} {Q:Exit->Act->World->Prop}:Dn (WC P .ret Q n ds E w) (WQ Q .ret n ds E w)
 |i {n:Nat} {ds:List Deferred} {E:Fr} {w:World} {Q:Exit->Act->World->Prop} {N:Act->World->Prop} {k:Nat}:Dn (WQ (Exit.then N Q) (.exit k) n ds E w) (WQ Q (.exit k) n ds E w)
 |j {n:Nat} {ds:List Deferred} {E:Fr} {w:World} {Q:Exit->Act->World->Prop} {N:Act->World->Prop}:Dn (WQ (Exit.then N Q) .ret n ds E w) (WQ Q .ret n ds E w)
 |k {n:Nat} {ds:List Deferred} {E:Fr} {w:World} {Q:Exit->Act->World->Prop} {k:Nat}:Dn (WQ (Exit.inBlock k Q) .normal n ds E w) (WQ Q .normal n ds E w)
 |l {n:Nat} {ds:List Deferred} {E:Fr} {w:World} {Q:Exit->Act->World->Prop} {k:Nat}:Dn (WQ (Exit.inBlock k Q) .ret n ds E w) (WQ Q .ret n ds E w)
 |m {n:Nat} {ds:List Deferred} {E:Fr} {w:World} {Q:Exit->Act->World->Prop} {k:Nat}:Dn (WQ (Exit.inBlock k Q) (.exit k) n ds E w) (WQ Q .normal n ds E w)
theorem yDn {p q:Prop} (h:Dn p q) (k:q):p:=by
 cases h with
 |a=>exact b2T k
 |b=>exact a77 k
 |c=>exact b2X k
 |d=>exact b2p k
 |e=>exact b2l k
 |f=>exact b0s k
 |g=>exact b1u k
 |h=>exact b29 k
 |i=>exact a4C k
 |j=>exact a6j k
 |k=>exact a9Y k
 |l=>exact a4F k
 |m=>exact a4g k
theorem Fr.sub_of {F G:Fr} (h:G.map (fun p=>F.get p.1)=G.map fun p=>some p.2):Fr.sub G F:=fun p hp=>by
 obtain ⟨i,hi⟩:=xc9.1 hp;have h2:=congrArg (fun l=>l[i]?) h;simp only [xg0,hi,xg1,Option.some.injEq] at h2;exact h2
theorem ck4 {a b c d:Bool} (h:(a && (b && (c && !d)))=true):a=true/\b=true/\c=true/\d=false:=by
 revert h
 cases a <;> cases b <;> cases c <;> cases d <;> simp
section
variable {P:Program} {n:Nat} {ds:List Deferred} {E:Fr} {w:World} {Q:Exit->Act->World->Prop} {ops:Array Oper} {rest:List Oper} {d:Nat} {ty:TypeId} {pos:String} {after:Array Edge} {F:Nat->Prop} {w0:World} {Γ Γ':List Asr} {T:Tab}
def b3k:Op->Bool
 |.binOp .add ..|.binOp .sub ..|.binOp .mul ..=>true
 |_=>false
theorem a5 (hT:TabOk P T) {op:Op} {v:Value} (_ho:b3k op=false) (h:m6 T E op=some v) (hd:Nat.blt d n=true) (k:WL P ops Q rest n ds ((d,v)::E) w):WL P ops Q (⟨some d,op,ty,pos,after,none⟩::rest) n ds E w:=a9f hT h hd k
theorem a4q {f:FuncId} {x:Operand} {args:Array Operand} {ats:Array TypeId} {vs:List Value} {first caps:List Value} (hx:E.ev x=some (.func (.func f) first.toArray caps.toArray)) (hv:E.evs args.toList=some vs) (hd:Nat.blt d n=true) (k:∃ Φ,Fn P f (first++vs++caps) w Φ/\∀ v w',Φ v w'->WL P ops Q rest n ds ((d,v)::E) w') :
  WL P ops Q (⟨some d,.call { callee:=.value x,args:=args,argTypes:=ats },ty,pos,after,none⟩::rest) n ds E w:=k.elim fun _ h=>a8i hx hv h.1 hd h.2
theorem b5 {f:FuncId} {x:Operand} {args:Array Operand} {ats:Array TypeId} {vs:List Value} {first caps:List Value} (hS:St F w0 w Γ) (hx:E.ev x=some (.func (.func f) first.toArray caps.toArray)) (hv:E.evs args.toList=some vs) (hd:Nat.blt d n=true) (k:∃ v,Fn P f (first++vs++caps) w (RBf v w)/\∀ w',St F w0 w' Γ->WL P ops Q rest n ds ((d,v)::E) w') :
  WL P ops Q (⟨some d,.call { callee:=.value x,args:=args,argTypes:=ats },ty,pos,after,none⟩::rest) n ds E w:=k.elim fun _ h=>a8i hx hv h.1 hd (by rintro _ w' ⟨rfl,h2⟩;exact h.2 w' (hS.trans h2))
theorem b9 {K:Act->Prop} {f:FuncId} {x:Operand} {args:Array Operand} {ats:Array TypeId} {vs:List Value} {first caps:List Value} (hx:E.ev x=some (.func (.func f) first.toArray caps.toArray)) (hv:E.evs args.toList=some vs) (hd:Nat.blt d n=true)
  (k:∃ v,(∀ w,St F w0 w Γ->Fn P f (first++vs++caps) w (RBf v w))/\WD P ops (fun w'=>St F w0 w' Γ) K rest n ds ((d,v)::E)):WD P ops (fun w'=>St F w0 w' Γ) K (⟨some d,.call { callee:=.value x,args:=args,argTypes:=ats },ty,pos,after,none⟩::rest) n ds E:=k.elim fun _ h=>b1s hx hv h.1 hd h.2
theorem a0Y (hT:TabOk P T) {t:TypeId} {x:Operand} {g kk s:Nat} {fs:List (Nat×Nat×Bool)} {z:List Value} (hx:E.ev x=some (.pointer (some ⟨g,kk,none⟩))) (ht:T.get t=some (.st s fs z)) (hd:Nat.blt d n=true) (k:∃ L:List Value,w.rangeAt g kk L/\L.length=s/\WL P ops Q rest n ds ((d,.agg L.toArray)::E) w):WL P ops Q (⟨some d,.load t x,ty,pos,after,none⟩::rest) n ds E w:=k.elim fun _ h=>a6 hx (Ld.st hT ht h.1 h.2.1) hd h.2.2
end
section
variable {P:Program} {n:Nat} {ds:List Deferred} {E:Fr} {w:World} {Q:Exit->Act->World->Prop} {ops:Array Oper} {S:World->Prop} {q fuel:Nat} {li:Array Bool} {d:Nat} {op:Op} {ty:TypeId} {pos:String} {after:Array Edge} {T:Tab}
theorem a0G {i:Nat} (C:Nn i) {v:Value} (hT:TabOk P T) (hi:ops[i]?=some ⟨some d,op,ty,pos,after,none⟩) (hc:(Region.noSelect ops && (Region.free .any ops li i && ((Region.ready .any ops li).contains i && !Nat.beq q i)))=true)
  (hQ:∀ c (a:Act) w,Q (.panic c) (a.put (some d) v) w->Q (.panic c) a w) (hS:li.getD q false=true\/S w) (hv:m6 T E op=some v) (hd:Nat.blt d n=true) (k:WT P ops Q S q fuel (li.setIfInBounds i true) n ds ((d,v)::E) w):WT P ops Q S q (fuel + 1) li n ds E w :=
 b1J C hT hi (ck4 hc).1 (ck4 hc).2.1 (ck4 hc).2.2.1 (ck4 hc).2.2.2 hQ hS hv hd k
theorem a1e {i:Nat} (C:Nn i) {t:TypeId} {x:Operand} {p:Addr} {v:Value} (hi:ops[i]?=some ⟨some d,.load t x,ty,pos,after,none⟩) (hc:(Region.noSelect ops && (Region.free .any ops li i && ((Region.ready .any ops li).contains i && !Nat.beq q i)))=true) (hw:t8 ops q i=true) (hnq:li.getD q false=false)
  (hQ:∀ c (a:Act) w,Q (.panic c) (a.put (some d) v) w->Q (.panic c) a w) (hS:S w) (hx:E.ev x=some (.pointer (some p))) (hl:∀ w,S w->Ld P t p v w) (hd:Nat.blt d n=true) (k:WT P ops Q S q fuel (li.setIfInBounds i true) n ds ((d,v)::E) w):WT P ops Q S q (fuel + 1) li n ds E w :=
 b0d C hi (ck4 hc).1 (ck4 hc).2.1 (ck4 hc).2.2.1 hw (ck4 hc).2.2.2 hnq hQ hS hx hl hd k
theorem i3 {i:Nat} (C:Nn i) {v:Value} (hT:TabOk P T) (hi:ops[i]?=some ⟨some d,op,ty,pos,after,none⟩) (hc:(Region.noSelect ops && (Region.free .any ops li i && ((Region.ready .any ops li).contains i && !false)))=true)
  (hQ:∀ c (a:Act) w,Q (.panic c) (a.put (some d) v) w->Q (.panic c) a w) (hS:S w) (hv:m6 T E op=some v) (hd:Nat.blt d n=true) (k:WA P ops Q S fuel (li.setIfInBounds i true) n ds ((d,v)::E) w):WA P ops Q S (fuel + 1) li n ds E w :=
 b18 C hT hi (ck4 hc).1 (ck4 hc).2.1 (ck4 hc).2.2.1 hQ hS hv hd k
theorem n9 {i:Nat} (C:Nn i) {t:TypeId} {x:Operand} {p:Addr} {v:Value} (hi:ops[i]?=some ⟨some d,.load t x,ty,pos,after,none⟩) (hc:(Region.noSelect ops && (Region.free .any ops li i && ((Region.ready .any ops li).contains i && !false)))=true)
  (hQ:∀ c (a:Act) w,Q (.panic c) (a.put (some d) v) w->Q (.panic c) a w) (hS:S w) (hx:E.ev x=some (.pointer (some p))) (hl:∀ w,S w->Ld P t p v w) (hd:Nat.blt d n=true) (k:WA P ops Q S fuel (li.setIfInBounds i true) n ds ((d,v)::E) w):WA P ops Q S (fuel + 1) li n ds E w :=
 b0w C hi (ck4 hc).1 (ck4 hc).2.1 (ck4 hc).2.2.1 hQ hS hx hl hd k
end
theorem yEn {P : Program} {f : FuncId} {fn : Func} {c : Code} {args : List Value} {w : World} {Φ : Value -> World -> Prop} {m : Nat} (h1 : P.funcs[f]? = some fn) (hm : fn.ntmps = m) (h2 : (fn.name == "runtime.NumGoroutine") = false) (h3 : fn.body.isNone = false) (hb : fn.body = some c) (hl : Nat.ble args.length m = true) (h : WC P c (bodyPost P fn (fun e w' => ∃ v, e = .returned v /\ Φ v w')) m [] (a2m 0 args) w) : Fn P f args w Φ := a82 ⟨h1, h2, h3⟩ hb hm hl h
def a9u (E:Fr):List ResultVar->Option (List Value)
 |[]=>some []
 |.tmp t::r=>match E.get t,a9u E r with
  |some v,some vs=>some (v::vs)
  |_,_=>none
 |.cell _ _::_=>none
theorem a4s {P:Program} {E:Fr} {w:World}:∀ {rs:List ResultVar} {vs:List Value},a9u E rs=some vs->ResL P E w rs vs
 |[],vs,h=>by cases h;exact .nil
 |.tmp t::r,vs,h=>by
  simp only [a9u] at h
  split at h
  ·rename_i v us h1 h2
   cases h
   exact .tmp h1 (a4s h2)
  ·cases h
 |.cell _ _::_,_,h=>by cases h
section
variable {P:Program} {n:Nat} {E:Fr} {w:World} {fn:Func} {Φ:Value->World->Prop} {v v1 v2 v3 v4:Value}
theorem d4 (h:a9u E fn.results.toList=some [v]) (hΦ:Φ v w):WQ (bodyPost P fn (fun e w'=>∃ v,e=.returned v/\Φ v w')) .ret n [] E w:=a5U (a4s h) hΦ
theorem b25 (h:a9u E fn.results.toList=some [v1,v2]) (hΦ:Φ (.tuple #[v1,v2]) w):WQ (bodyPost P fn (fun e w'=>∃ v,e=.returned v/\Φ v w')) .ret n [] E w:=a2g (a4s h) hΦ
end
theorem b0i {L:List Ar}:∀ {e:Int},l0 e L->∀ (i:Nat) (a:Ar),L[i]?=some a->a.ok:=by
 induction L with
 |nil=>intro e _ i a h;simp at h
 |cons b L ih=>
  intro e h i a ha
  cases i with
  |zero=>simp at ha;subst ha;exact h.1
  |succ i=>exact ih h.2.2 i a (by simpa using ha)
def RowsApart (v u:Value):Prop:=v.ownBlock=none\/v.ownBlock≠u.ownBlock
theorem RowsApart.symm {v u:Value} (h:RowsApart v u):RowsApart u v:=by
 unfold RowsApart at *
 cases hv:v.ownBlock <;> cases hu:u.ownBlock <;> simp_all
 omega
theorem SlAr.below {w w':World} {v:Value} {L:List Ar} (h:SlAr w v L) (hb:Below w.heap.size w w'):SlAr w' v L:=by
 rcases h with h|⟨b,off,cap,rfl,h2,h3,h4,h5⟩
 ·exact xc7 h
 ·exact xc4 ⟨b,off,cap,rfl,xa7 h2 hb.size,h3,h4,fun i a ha=>(h5 i a ha).grown hb h2⟩
def a2u (a:Ar) (page:Int):Int:=if wrap64 a.fin<=page then -1 else 1
theorem a6H (a:Ar) (page:Int) (w:World):Calls Tryz.prog 164 #[.agg (arC a).toArray,.int .i64 page] w (RB (.int .i64 (a2u a page)) w):=by
 have HE:=hid (fun w=>a38 a w);have HC:Hid (a2u a page=if wrap64 a.fin<=page then -1 else 1):=hid rfl;generalize wrap64 a.fin=f at *;unfold arC at *;by_cases h:f<=page
 ·go_enter Tryz.func164,Tryz.ntmps164
  go_wp2_with (first|go_at_call 153;(with_reducible refine (HE.out _).mono ?_);rintro e w1 ⟨rfl,hb1⟩)
  go_ret
  exact ⟨m7 (by rw [HC.out,xd8 h]),(by repeat (first|with_reducible exact Below.refl _ _|with_reducible refine Below.alloc ?_ (by (omega)) _|refine bt ?_ (by with_reducible assumption)))⟩
 ·go_enter Tryz.func164,Tryz.ntmps164
  go_wp2_with (first|go_at_call 153;(with_reducible refine (HE.out _).mono ?_);rintro e w1 ⟨rfl,hb1⟩)
  go_ret
  exact ⟨m7 (by rw [HC.out,xd9 (by omega)]),(by repeat (first|with_reducible exact Below.refl _ _|with_reducible refine Below.alloc ?_ (by (omega)) _|refine bt ?_ (by with_reducible assumption)))⟩
theorem b2g (a:Ar) (page:Int):(a2u a page == 0)=false:=by unfold a2u;split <;> decide
theorem a80 {a:Ar} {page:Int}:a2u a page < 0 ↔ wrap64 a.fin<=page:=by unfold a2u;split <;> omega
theorem a20 {L:List Ar} (h:a15 L):∀ {j k:Nat} {a b:Ar},j < k->L[j]?=some a->L[k]?=some b->a.fin<=b.pg:=by
 have ok:=(a04 L).1 h;intro j k
 induction k with
 |zero=>intro a b hj;omega
 |succ k ih=>
  intro a b hj ha hb;obtain ⟨hk,_⟩:=xa6.1 hb;obtain ⟨c,hc⟩:∃ c,L[k]?=some c:=⟨L[k],by simp⟩;have h1:=((a3E hb hc).1 (ok (k + 1) hk)).2.1;rcases xj7.1 hj with h2|h2
  ·have h3:=ih h2 ha hc;have h4:=v9 h k c hc;unfold Ar.ok at h4;unfold Ar.fin at *;omega
  ·subst h2;rw [ha] at hc;cases hc;exact h1
def a1o (L:List Ar) (page:Int) (i j:Nat):Prop:=a15 L->(∀ (t:Nat) (a:Ar),t < i->L[t]?=some a->a.fin<=page)/\(∀ (t:Nat) (a:Ar),j<=t->L[t]?=some a->page < a.fin)
theorem a5l (L:List Ar) (page:Int):a1o L page 0 L.length:=fun _=>⟨fun t a h=>by omega,fun t a h ha=>by obtain ⟨h2,_⟩:=xa6.1 ha;omega⟩
theorem b0P {L:List Ar} {page:Int} {i j h:Nat} {a:Ar} (hI:a1o L page i j) (ha:L[h]?=some a) (hc:a2u a page < 0):a1o L page (h + 1) j:=fun hg=>by
 have hok:=v9 hg h a ha;rw [a80,a05 hok] at hc;refine ⟨fun t b ht hb=>?_,(hI hg).2⟩;rcases xj7.1 ht with h1|h1
 ·have:=a20 hg h1 hb ha;have hb':=v9 hg t b hb;unfold Ar.ok at hok;unfold Ar.fin at *;omega
 ·subst h1;rw [ha] at hb;cases hb;exact hc
theorem a9p {L:List Ar} {page:Int} {i j h:Nat} {a:Ar} (hI:a1o L page i j) (ha:L[h]?=some a) (hc:¬ a2u a page < 0):a1o L page i h:=fun hg=>by
 have hok:=v9 hg h a ha;rw [a80,a05 hok] at hc;refine ⟨(hI hg).1,fun t b ht hb=>?_⟩;rcases Nat.lt_or_eq_of_le ht with h1|h1
 ·have:=a20 hg h1 ha hb;have hb':=v9 hg t b hb;unfold Ar.ok at hb';unfold Ar.fin at *;omega
 ·subst h1;rw [ha] at hb;cases hb;omega
def a6d (L:List Ar) (page:Int) (w:World) (e:Ending) (w':World):Prop:=∃ i:Nat,i<=L.length/\e=.returned (.tuple #[.int .i64 i,.bool false])/\Below w.heap.size w w'/\a1o L page i i
theorem a8h (i j n:Nat) (hi:i<=n) (hj:j<=n) (h:n<=9223372036854775807):IntKind.u64.wrap (wrap64 ((i:Int) + j))=(i:Int) + j:=by
 rw [IntKind.wrap_u64];unfold wrap64;omega
theorem a7d (i j n:Nat) (hi:i<=n) (hj:j<=n) (h:n<=9223372036854775807):IntKind.u64.wrap ((i:Int) + j)=(i:Int) + j:=by
 rw [IntKind.wrap_u64];omega
theorem a62 (h n:Nat) (h1:h < n) (h2:n<=9223372036854775807):wrap64 ((h:Int) + 1)=(h:Int) + 1:=by unfold wrap64;omega
theorem a6x {n cap:Nat} (h:n<=cap) (hm:cap<=maxLen):n<=9223372036854775807:=xc6 h hm
theorem ms1 {i j h:Nat} (h1:i<=h) (h2:h < j):(j:Int).toNat - ((h:Int) + 1).toNat < (j:Int).toNat - (i:Int).toNat:=by omega
theorem ms2 {i j h:Nat} (h1:i<=h) (h2:h < j):(h:Int).toNat - (i:Int).toNat < (j:Int).toNat - (i:Int).toNat:=by omega
theorem a7e (i j n:Nat) (hi:i<=n) (hj:j<=n) (h:n<=9223372036854775807):wrap64 (((i:Int) + j) / 2)=((i + j) / 2:Nat):=by
 unfold wrap64;omega
theorem b2h {L:List Ar} {w:World} (b off cap:Nat) (page:Int) (hbl:b < w.heap.size) (hcap:L.length<=cap) (hmax:cap<=maxLen) (j0:∀ i a,L[i]?=some a->CellsAr w b (off + i * 4) a) :
  Calls Tryz.prog 163 #[.slice (some ⟨b,off,none⟩) L.length cap,.int .i64 page,.func (.func 164) #[] #[]] w (a6d L page w):=by
 have hlen:=a6x hcap hmax;clear hmax hcap;have HLEN:=hid hlen;clear hlen;have HL:=hid j0;have HI:=hid (a5l L page);clear j0
 go_enter Tryz.func163,Tryz.ntmps163
 go_wp2
 go_loopw [9,10] (fun vi vj wr=>∃ i j:Nat,i<=j/\j<=L.length/\vi=.int .i64 i/\vj=.int .i64 j/\Below w.heap.size w wr/\Hid (a1o L page i j)) (fun vi vj _=>(intOf vj).toNat - (intOf vi).toNat)
 case atStart=>exact ⟨0,L.length,by omega,by omega,rfl,rfl,Below.refl _ _,HI.out⟩
 case round=>
  clear HI;obtain ⟨i,j,hij,hj,rfl,rfl,hb,HI⟩:=hrel;by_cases hlt:i < j
  ·obtain ⟨h,hh⟩:∃ h,h=(i + j) / 2:=⟨_,rfl⟩;have hhj:h < j:=by omega
   have hih:i<=h:=by omega
   obtain ⟨a,ha⟩:∃ a,L[h]?=some a:=⟨L[h]'(by omega),by simp⟩;obtain ⟨c0,c1,c2,c3⟩:=(HL.out h a ha).grown hb hbl;have hbr:=a0B (xa7 hbl hb.size);have hsz:=hb.size;have hq0:=a7d i j L.length (xc6 hij hj) hj HLEN.out;have hq1:=a8h i j L.length (xc6 hij hj) hj HLEN.out;have hq2:=a7e i j L.length (xc6 hij hj) hj HLEN.out;rw [<- hh] at hq2;have HC:=hid (fun w=>a6H a page w);unfold arC at HC;have hw1:wrap64 ((h:Int) + 1)=(h:Int) + 1:=a62 h L.length (xa7 hhj hj) HLEN.out;have hlh:(h:Int) < L.length:=Int.ofNat_lt.2 (xa7 hhj hj);clear hh
   go_upto_region 5 with fail
   rw [hq2];clear hq0 hq1 hq2;by_cases hc:a2u a page < 0
   ·have HX:=hid (b0P HI.out ha hc);generalize a2u a page=cv at *
    go_wp2_with (first|go_at_call 164;(with_reducible refine (HC.out _).mono ?_);rintro e w1 ⟨rfl,hb1⟩)
    go_roundw
    case rel=>exact ⟨h + 1,j,Nat.succ_le_of_lt hhj,hj,by rw [hw1];rfl,rfl,(by repeat (first|with_reducible assumption|refine bt ?_ (by with_reducible assumption))),HX.out⟩
    case measure=>(rw [hw1];exact ms1 hih hhj)
   ·have HX:=hid (a9p HI.out ha hc);generalize a2u a page=cv at *
    go_wp2_with (first|go_at_call 164;(with_reducible refine (HC.out _).mono ?_);rintro e w1 ⟨rfl,hb1⟩)
    go_roundw
    case rel=>exact ⟨i,h,hih,Nat.le_of_lt (xa7 hhj hj),rfl,rfl,(by repeat (first|with_reducible assumption|refine bt ?_ (by with_reducible assumption))),HX.out⟩
    case measure=>exact ms2 hih hhj
  ·obtain rfl:i=j:=by omega
   by_cases hn:i < L.length
   ·obtain ⟨a,ha⟩:∃ a,L[i]?=some a:=⟨L[i],by simp [hn]⟩;obtain ⟨c0,c1,c2,c3⟩:=(HL.out i a ha).grown hb hbl;have hbr:=a0B (xa7 hbl hb.size);have hsz:=hb.size;have HC:=hid (fun w=>a6H a page w);have hz:=b2g a page;unfold arC at HC;generalize a2u a page=cv at *
    go_wp2_with (first|go_at_call 164;(with_reducible refine (HC.out _).mono ?_);rintro e w1 ⟨rfl,hb1⟩)
    go_ret2
    exact ⟨i,hj,rfl,(by repeat (first|with_reducible assumption|refine bt ?_ (by with_reducible assumption))),HI.out⟩
   ·go_wp2
    go_ret2
    exact ⟨i,hj,rfl,(by repeat ((with_reducible assumption))),HI.out⟩
theorem a2A {va vb:Value} {A B:List Ar} {w:World} (ha:SlAr w va A) (hb:SlAr w vb B):Calls Tryz.prog 59 #[va,vb] w (RB (.bool (decide (A=B))) w):=by
 rcases ha with ⟨p,c,rfl,rfl⟩|⟨b1,off1,cap1,rfl,h2,h3,h4,h5⟩
 ·rcases hb with ⟨p2,c2,rfl,rfl⟩|⟨b2,off2,cap2,rfl,k2,k3,k4,k5⟩
  ·go_enter Tryz.func59,Tryz.ntmps59
   go_wp2
   go_loopw [5] (fun vi wr=>vi=.int .i64 0/\wr=w) (fun _ _=>0)
   case atStart=>exact ⟨rfl,rfl⟩
   case round=>
    obtain ⟨rfl,rfl⟩:=hrel
    go_wp2
    go_ret
    exact ⟨j6 (by simp),Below.refl _ _⟩
  ·cases B with
   |nil=>
    simp only [xa2]
    go_enter Tryz.func59,Tryz.ntmps59
    go_wp2
    go_loopw [5] (fun vi wr=>vi=.int .i64 0/\wr=w) (fun _ _=>0)
    case atStart=>exact ⟨rfl,rfl⟩
    case round=>
     obtain ⟨rfl,rfl⟩:=hrel
     go_wp2
     go_ret
     exact ⟨j6 (by simp),Below.refl _ _⟩
   |cons c B=>
    have hn:((0:Int) != ((c::B).length:Nat))=true:=by rw [xh3];simp;omega
    generalize hD:(c::B).length=n at *
    go_enter Tryz.func59,Tryz.ntmps59
    go_wp2
    go_ret
    exact ⟨j6 (by simp),Below.refl _ _⟩
 ·rcases hb with ⟨p2,c2,rfl,rfl⟩|⟨b2,off2,cap2,rfl,k2,k3,k4,k5⟩
  ·cases A with
   |nil=>
    simp only [xa2]
    go_enter Tryz.func59,Tryz.ntmps59
    go_wp2
    go_loopw [5] (fun vi wr=>vi=.int .i64 0/\wr=w) (fun _ _=>0)
    case atStart=>exact ⟨rfl,rfl⟩
    case round=>
     obtain ⟨rfl,rfl⟩:=hrel
     go_wp2
     go_ret
     exact ⟨j6 (by simp),Below.refl _ _⟩
   |cons c A=>
    have hn:(((c::A).length:Int) != 0)=true:=by rw [xh3];simp;omega
    generalize hD:(c::A).length=n at *
    go_enter Tryz.func59,Tryz.ntmps59
    go_wp2
    go_ret
    exact ⟨j6 (by simp),Below.refl _ _⟩
  ·by_cases hl:A.length=B.length
   ·exact a63 b1 off1 cap1 b2 off2 cap2 h2 k2 h5 k5 hl (a6x h3 h4)
   ·have HX:=hid (a9X hl);have hn:((A.length:Int) != B.length)=true:=by rw [xh3];omega
    clear hl h4 k4 h5 k5 h3 k3
    go_enter Tryz.func59,Tryz.ntmps59
    go_wp2
    go_ret
    exact ⟨j6 (xh9 HX.out).symm,Below.refl _ _⟩
theorem a1B (n lo hi:Int) (w:World):Calls Tryz.prog 70 #[.int .i64 n,.int .i64 lo,.int .i64 hi] w fun e w'=>e=.returned (.bool (decide (lo<=n/\n<=hi)))/\w=w':=by
 by_cases h1:lo<=n
 ·by_cases h2:n<=hi
  ·go_enter Tryz.func70,Tryz.ntmps70
   go_wp2
   go_ret
   exact ⟨j6 (by simp [h1,h2]),rfl⟩
  ·go_enter Tryz.func70,Tryz.ntmps70
   go_wp2
   go_ret
   exact ⟨j6 (by simp [h1,h2]),rfl⟩
 ·go_enter Tryz.func70,Tryz.ntmps70
  go_wp2
  go_ret
  exact ⟨j6 (by simp;omega),rfl⟩
theorem x5 {P:Program} {w:World} {ops:Array Oper} {rest:List Oper} {o:Oper} {a:Act} {Q:Exit->Act->World->Prop} (hw:Region.wanted o (yielded ops a.tmps)=true) (ty:TypeId) (x:Operand) (ho:o.op=.load ty x) (g:Nat) (L:List Value) (hx:a.eval x=.pointer (some ⟨g,0,none⟩)) (h:HoldL w g L) (d:TypeDesc)
  (hu:P.underlying ty=some d) (hd:(match d with|.struct _|.array _ _=>true|_=>false)=true) (hi:(P.info? ty).map (·.size)=some L.length)
  (next:wpList P ops Q rest (a.put o.dst (.agg L.toArray)) w):wpList P ops Q (o::rest) a w:=by
 obtain ⟨t,ht⟩:=h;unfold wpList;rw [xd8 hw];exact xc7 (wp_load_row ty x ho g hx t _ _ d ht hu hd (by simpa using hi) next)
theorem a5m {v:Value} {L:List Ar} {w:World} (h:SlAr w v L) (hok:∀ (i:Nat) (a:Ar),L[i]?=some a->a.ok) (hlen:L.length<=255):Calls Tryz.prog 120 #[v] w (y5 L w):=by
 rcases h with ⟨p,c,rfl,rfl⟩|⟨b,off,cap,rfl,h2,h3,h4,h5⟩
 ·exact a7y p c w
 ·exact a7g b off cap h2 h5 hok hlen
theorem a4J {L:List Ar} (hl:¬ 255 < L.length) (hr:¬ l0 1 L):b4 L=1:=by
 unfold b4;rw [xd9 hl,xd9 (fun g=>hr g.1)]
theorem a5h {L:List Ar} (hl:¬ 255 < L.length) (hr:l0 1 L):b4 L=if n5 (i5 L) 255=L then 0 else 1:=by
 unfold b4;rw [xd9 hl];by_cases h:a0Q L
 ·rw [xd8 ⟨hr,h⟩,xd8 ((a2q hr).2 h)]
 ·rw [xd9 (fun g=>h g.2),xd9 (fun e=>h ((a2q hr).1 e))]
theorem a2X (p:Option Addr) (c:Nat) (w:World):Calls Tryz.prog 96 #[.slice p 0 c] w (RB (.int .i64 0) w):=by
 have hszb:(Tryz.prog.info? 188).map (·.size)=some 256:=by kernel_rfl
 have Hszb:=hid hszb;clear hszb;have hbw:=Below.refl w.heap.size w;obtain ⟨L,hL⟩:∃ L:List Ar,L=[]:=⟨_,rfl⟩;have HR:Hid (l0 1 L):=by rw [hL];exact trivial
 have HSL:Hid (SlAr w (.slice p 0 c) L):=xc7 ⟨_,_,rfl,hL⟩;have HBD:Hid (∀ w',Below w.heap.size w w'->Calls Tryz.prog 120 #[.slice p 0 c] w' (y5 L w')):=fun w' hb=>a5m (HSL.out.grown hb) (by rw [hL];intro i a h;simp at h) (by rw [hL];simp);unfold y5 at HBD;rw [xh7 HR.out] at HBD;have HAO:=hid (fun w'=>a2h (i5 L) (fun p=>a1I p HR.out) (n6 HR.out (by omega)) w');have HEQ:Hid (n5 (i5 L) 255=L):=hid (by rw [hL];exact a00 ⟨trivial,trivial⟩);clear hL
 go_enter Tryz.func96,Tryz.ntmps96
 go_wp2
 go_loopw [3] (fun vi wr=>vi=.int .i64 0/\w=wr) (fun _ _=>0)
 case atStart=>exact ⟨rfl,rfl⟩
 case round=>
  obtain ⟨rfl,rfl⟩:=hrel
  go_wp2_with (first|go_at_call 120;(with_reducible refine (HBD.out _ hbw).mono ?_);rintro e wc ⟨bd,rfl,hbc,hbd⟩;rw [hbd HR.out];clear hbd;have hbn:=bt hbw hbc;clear hbw hbc;have hbw:=hbn;clear hbn|(with_reducible refine n7 5 ?_);refine f7 rfl (some 5) rfl (bdC (fun _=>0)) 188 (by kernel_rfl) w.heap.size w hbw hbw.size ?_;intro g5 wn5 hL5 hB5 hbn hkn hnn;skip;clear hbw hkn hnn;have hbw:=hbn;clear hbn|(with_reducible refine l5 5 ?_);refine d5 rfl 188 (.tmp 5) (.tmp 48) rfl rfl g5 (bdC (i5 L)) (bdC (fun _=>0)) rfl rfl hL5 (by rw [Hszb.out,j5]) (by simp [j5]) (a0C _) w.heap.size w hbw hB5 ?_;intro wp5 hLn hbn hon;clear hL5 hbw hon;have hL5:=hLn;have hbw:=hbn;clear hLn hbn|(with_reducible refine n7 53 ?_);refine x5 rfl 188 (.tmp 5) rfl g5 (bdC (i5 L)) rfl hL5 _ Tryz.underlying188 rfl (by rw [Hszb.out,j5]) ?_|go_at_call 122;(with_reducible refine (HAO.out _).mono ?_);rintro e wa ⟨va,rfl,hsa,hba⟩;have hbn:=bt hbw hba;clear hbw hba;have hbw:=hbn;clear hbn)
  have HC:=a2A (a5Y hsa) (HSL.out.grown hbw);rw [xh7 HEQ.out] at HC;have HC:=hid HC
  go_wp2_with (first|go_at_call 59;(with_reducible refine (HC.out).mono ?_);rintro e wz ⟨rfl,hbz⟩)
  go_ret
  exact ⟨m7 rfl,bt hbw hbz⟩
theorem a2z {L:List Ar} {w:World} (b off cap:Nat) (hbl:b < w.heap.size) (hcap:L.length<=cap) (hmax:cap<=maxLen) (j0:∀ i a,L[i]?=some a->CellsAr w b (off + i * 4) a) :
  Calls Tryz.prog 96 #[.slice (some ⟨b,off,none⟩) L.length cap] w (RB (.int .i64 (b4 L)) w):=by
 by_cases hm:255 < L.length
 ·have HC:=hid (a2n hm);clear hmax;generalize b4 L=r at *
  go_enter Tryz.func96,Tryz.ntmps96
  go_wp2
  go_ret
  exact ⟨m7 HC.out.symm,Below.refl _ _⟩
 have hszb:(Tryz.prog.info? 188).map (·.size)=some 256:=by kernel_rfl
 have Hszb:=hid hszb;clear hszb;have HSL:Hid (SlAr w (.slice (some ⟨b,off,none⟩) L.length cap) L):=xc4 ⟨b,off,cap,rfl,hbl,hcap,hmax,j0⟩;have HL:=hid j0;have hlen:L.length<=255:=by omega
 clear j0 hmax hcap;obtain ⟨r,hr⟩:∃ r,r=b4 L:=⟨_,rfl⟩;rw [<- hr];have HQ:=hid hr;clear hr
 go_enter Tryz.func96,Tryz.ntmps96
 go_wp2
 go_loopw [3] (fun vi wr=>∃ i:Nat,i<=L.length/\vi=.int .i64 i/\Below w.heap.size w wr/\Hid (∀ (j:Nat) (a:Ar),j < i->L[j]?=some a->a.ok)) (fun vi _=>L.length - (intOf vi).toNat)
 case atStart=>exact ⟨0,by omega,rfl,Below.refl _ _,fun j a hj=>by omega⟩
 case round=>
  obtain ⟨i,hi,rfl,hbw,HO⟩:=hrel;by_cases hlt:i < L.length
  ·obtain ⟨a,ha⟩:∃ a,L[i]?=some a:=⟨L[i],by simp [hlt]⟩;obtain ⟨c0,c1,c2,c3⟩:=(HL.out i a ha).grown hbw hbl;have hbr:=a0B (xa7 hbl hbw.size);have hsz:=hbw.size;have HW1:=hid (fun w=>a1B a.pg 1 255 w);have HW2:=hid (fun w=>a1B a.n 1 255 w);have HW4:=hid (fun w=>a1B a.prot 0 3 w);by_cases h1:1<=a.pg/\a.pg<=255
   ·rw [xh7 h1] at HW1;by_cases h2:1<=a.n/\a.n<=255
    ·rw [xh7 h2] at HW2;have hw1:wrap64 (a.pg + a.n)=a.pg + a.n:=l4 _ (by omega) (by omega);have hw2:wrap64 (a.pg + a.n - 1)=a.pg + a.n - 1:=l4 _ (by omega) (by omega);by_cases h3:255 < a.pg + a.n - 1
     ·have HX:=hid (a1a ha (fun h=>by unfold Ar.ok at h;omega));clear h1 h2
      go_wp2_with (first|go_at_call 70;(with_reducible refine (HW1.out _).mono ?_);rintro e w1 ⟨rfl,rfl⟩|go_at_call 70;(with_reducible refine (HW2.out _).mono ?_);rintro e w1 ⟨rfl,rfl⟩|go_at_call 70;(with_reducible refine (HW4.out _).mono ?_);rintro e w1 ⟨rfl,rfl⟩)
      go_ret
      exact ⟨m7 (by rw [HQ.out,t6 hm hlt HX.out]),(by repeat (first|with_reducible exact Below.refl _ _|with_reducible assumption|with_reducible refine Below.alloc ?_ (by first|omega|(simp;done)|(simp;omega)) _|with_reducible refine Below.setCell ?_ (by first|omega|(simp;done)|(simp;omega)) _|with_reducible refine Below.drew ?_|with_reducible refine bt ?_ (below_regrown _ _ _)|refine bt ?_ (by with_reducible assumption)))⟩
     ·by_cases h4:0<=a.prot/\a.prot<=3
      ·rw [xh7 h4] at HW4;have HX:Hid (a.ok):=hid (by unfold Ar.ok;omega);have HMS:=hid (ms5 hlt);have hws:wrap64 ((i:Int) + 1)=(i:Int) + 1:=l4 _ (by omega) (by omega);have h3':a.pg + a.n - 1<=255:=by omega
       clear h1 h2 h3 h4
       go_wp2_with (first|go_at_call 70;(with_reducible refine (HW1.out _).mono ?_);rintro e w1 ⟨rfl,rfl⟩|go_at_call 70;(with_reducible refine (HW2.out _).mono ?_);rintro e w1 ⟨rfl,rfl⟩|go_at_call 70;(with_reducible refine (HW4.out _).mono ?_);rintro e w1 ⟨rfl,rfl⟩)
       go_roundw
       case rel=>
        refine ⟨i + 1,hlt,by first|rfl|(rw [hws];rfl),(by repeat (first|with_reducible exact Below.refl _ _|with_reducible assumption|with_reducible refine Below.alloc ?_ (by first|omega|(simp;done)|(simp;omega)) _|with_reducible refine Below.setCell ?_ (by first|omega|(simp;done)|(simp;omega)) _|with_reducible refine Below.drew ?_|with_reducible refine bt ?_ (below_regrown _ _ _)|refine bt ?_ (by with_reducible assumption))),fun j x hj hx=>?_⟩;rcases xj7.1 hj with h|h
        ·exact HO.out j x h hx
        ·subst h;rw [ha] at hx;cases hx;exact HX.out
       case measure=>first|exact HMS.out|(rw [hws];exact HMS.out)
      ·rw [xh9 h4] at HW4;have HX:=hid (a1a ha (fun h=>by unfold Ar.ok at h;omega));have h3':a.pg + a.n - 1<=255:=by omega
       clear h1 h2 h3 h4
       go_wp2_with (first|go_at_call 70;(with_reducible refine (HW1.out _).mono ?_);rintro e w1 ⟨rfl,rfl⟩|go_at_call 70;(with_reducible refine (HW2.out _).mono ?_);rintro e w1 ⟨rfl,rfl⟩|go_at_call 70;(with_reducible refine (HW4.out _).mono ?_);rintro e w1 ⟨rfl,rfl⟩)
       go_ret
       exact ⟨m7 (by rw [HQ.out,t6 hm hlt HX.out]),(by repeat (first|with_reducible exact Below.refl _ _|with_reducible assumption|with_reducible refine Below.alloc ?_ (by first|omega|(simp;done)|(simp;omega)) _|with_reducible refine Below.setCell ?_ (by first|omega|(simp;done)|(simp;omega)) _|with_reducible refine Below.drew ?_|with_reducible refine bt ?_ (below_regrown _ _ _)|refine bt ?_ (by with_reducible assumption)))⟩
    ·rw [xh9 h2] at HW2;have HX:=hid (a1a ha (fun h=>by unfold Ar.ok at h;omega));clear h1 h2
     go_wp2_with (first|go_at_call 70;(with_reducible refine (HW1.out _).mono ?_);rintro e w1 ⟨rfl,rfl⟩|go_at_call 70;(with_reducible refine (HW2.out _).mono ?_);rintro e w1 ⟨rfl,rfl⟩|go_at_call 70;(with_reducible refine (HW4.out _).mono ?_);rintro e w1 ⟨rfl,rfl⟩)
     go_ret
     exact ⟨m7 (by rw [HQ.out,t6 hm hlt HX.out]),(by repeat (first|with_reducible exact Below.refl _ _|with_reducible assumption|with_reducible refine Below.alloc ?_ (by first|omega|(simp;done)|(simp;omega)) _|with_reducible refine Below.setCell ?_ (by first|omega|(simp;done)|(simp;omega)) _|with_reducible refine Below.drew ?_|with_reducible refine bt ?_ (below_regrown _ _ _)|refine bt ?_ (by with_reducible assumption)))⟩
   ·rw [xh9 h1] at HW1;have HX:=hid (a1a ha (fun h=>by unfold Ar.ok at h;omega));clear h1
    go_wp2_with (first|go_at_call 70;(with_reducible refine (HW1.out _).mono ?_);rintro e w1 ⟨rfl,rfl⟩|go_at_call 70;(with_reducible refine (HW2.out _).mono ?_);rintro e w1 ⟨rfl,rfl⟩|go_at_call 70;(with_reducible refine (HW4.out _).mono ?_);rintro e w1 ⟨rfl,rfl⟩)
    go_ret
    exact ⟨m7 (by rw [HQ.out,t6 hm hlt HX.out]),(by repeat (first|with_reducible exact Below.refl _ _|with_reducible assumption|with_reducible refine Below.alloc ?_ (by first|omega|(simp;done)|(simp;omega)) _|with_reducible refine Below.setCell ?_ (by first|omega|(simp;done)|(simp;omega)) _|with_reducible refine Below.drew ?_|with_reducible refine bt ?_ (below_regrown _ _ _)|refine bt ?_ (by with_reducible assumption)))⟩
  ·obtain rfl:i=L.length:=by omega
   have hok:∀ (j:Nat) (a:Ar),L[j]?=some a->a.ok:=fun j a hj=>HO.out j a (xa6.1 hj).1 hj;have HBD:Hid (∀ w',Below w.heap.size w w'->Calls Tryz.prog 120 #[.slice (some ⟨b,off,none⟩) L.length cap] w' (y5 L w')):=fun w' hb=>a5m (HSL.out.grown hb) hok hlen;unfold y5 at HBD;clear hok;by_cases hr:l0 1 L
   ·rw [xh7 hr] at HBD;have HR:=hid hr;have HAO:=hid (fun w'=>a2h (i5 L) (fun p=>a1I p hr) (n6 hr (by omega)) w');have hcs:=a5h hm hr;clear hr;by_cases he:n5 (i5 L) 255=L
    ·rw [xd8 he] at hcs;have HEQ:=hid he;have HCS:=hid hcs;clear he hcs
     go_wp2_with (first|go_at_call 120;(with_reducible refine (HBD.out _ hbw).mono ?_);rintro e wc ⟨bd,rfl,hbc,hbd⟩;rw [hbd HR.out];clear hbd;have hbn:=bt hbw hbc;clear hbw hbc;have hbw:=hbn;clear hbn|(with_reducible refine n7 5 ?_);refine f7 rfl (some 5) rfl (bdC (fun _=>0)) 188 (by kernel_rfl) w.heap.size w hbw hbw.size ?_;intro g5 wn5 hL5 hB5 hbn hkn hnn;skip;clear hbw hkn hnn;have hbw:=hbn;clear hbn|(with_reducible refine l5 5 ?_);refine d5 rfl 188 (.tmp 5) (.tmp 48) rfl rfl g5 (bdC (i5 L)) (bdC (fun _=>0)) rfl rfl hL5 (by rw [Hszb.out,j5]) (by simp [j5]) (a0C _) w.heap.size w hbw hB5 ?_;intro wp5 hLn hbn hon;clear hL5 hbw hon;have hL5:=hLn;have hbw:=hbn;clear hLn hbn|(with_reducible refine n7 53 ?_);refine x5 rfl 188 (.tmp 5) rfl g5 (bdC (i5 L)) rfl hL5 _ Tryz.underlying188 rfl (by rw [Hszb.out,j5]) ?_|go_at_call 122;(with_reducible refine (HAO.out _).mono ?_);rintro e wa ⟨va,rfl,hsa,hba⟩;have hbn:=bt hbw hba;clear hbw hba;have hbw:=hbn;clear hbn)
     have HC:=a2A (a5Y hsa) (HSL.out.grown hbw);rw [xh7 HEQ.out] at HC;have HC:=hid HC
     go_wp2_with (first|go_at_call 59;(with_reducible refine (HC.out).mono ?_);rintro e wz ⟨rfl,hbz⟩)
     go_ret
     exact ⟨m7 (by rw [HQ.out,HCS.out]),bt hbw hbz⟩
    ·rw [xd9 he] at hcs;have HEQ:=hid he;have HCS:=hid hcs;clear he hcs
     go_wp2_with (first|go_at_call 120;(with_reducible refine (HBD.out _ hbw).mono ?_);rintro e wc ⟨bd,rfl,hbc,hbd⟩;rw [hbd HR.out];clear hbd;have hbn:=bt hbw hbc;clear hbw hbc;have hbw:=hbn;clear hbn|(with_reducible refine n7 5 ?_);refine f7 rfl (some 5) rfl (bdC (fun _=>0)) 188 (by kernel_rfl) w.heap.size w hbw hbw.size ?_;intro g5 wn5 hL5 hB5 hbn hkn hnn;skip;clear hbw hkn hnn;have hbw:=hbn;clear hbn|(with_reducible refine l5 5 ?_);refine d5 rfl 188 (.tmp 5) (.tmp 48) rfl rfl g5 (bdC (i5 L)) (bdC (fun _=>0)) rfl rfl hL5 (by rw [Hszb.out,j5]) (by simp [j5]) (a0C _) w.heap.size w hbw hB5 ?_;intro wp5 hLn hbn hon;clear hL5 hbw hon;have hL5:=hLn;have hbw:=hbn;clear hLn hbn|(with_reducible refine n7 53 ?_);refine x5 rfl 188 (.tmp 5) rfl g5 (bdC (i5 L)) rfl hL5 _ Tryz.underlying188 rfl (by rw [Hszb.out,j5]) ?_|go_at_call 122;(with_reducible refine (HAO.out _).mono ?_);rintro e wa ⟨va,rfl,hsa,hba⟩;have hbn:=bt hbw hba;clear hbw hba;have hbw:=hbn;clear hbn)
     have HC:=a2A (a5Y hsa) (HSL.out.grown hbw);rw [xh9 HEQ.out] at HC;have HC:=hid HC
     go_wp2_with (first|go_at_call 59;(with_reducible refine (HC.out).mono ?_);rintro e wz ⟨rfl,hbz⟩)
     go_ret
     exact ⟨m7 (by rw [HQ.out,HCS.out]),bt hbw hbz⟩
   ·rw [xh9 hr] at HBD;have HX:Hid (r=1):=hid (by rw [HQ.out,a4J hm hr]);clear hr
    go_wp2_with (first|go_at_call 120;(with_reducible refine (HBD.out _ hbw).mono ?_);rintro e wc ⟨bd,rfl,hbc,hbd⟩;clear hbd;have hbn:=bt hbw hbc;clear hbw hbc;have hbw:=hbn;clear hbn|(with_reducible refine n7 5 ?_);refine f7 rfl (some 5) rfl (bdC (fun _=>0)) 188 (by kernel_rfl) w.heap.size w hbw hbw.size ?_;intro g5 wn5 hL5 hB5 hbn hkn hnn;skip;clear hbw hkn hnn;have hbw:=hbn;clear hbn|(with_reducible refine l5 5 ?_);refine d5 rfl 188 (.tmp 5) (.tmp 48) rfl rfl g5 (bdC bd) (bdC (fun _=>0)) rfl rfl hL5 (by rw [Hszb.out,j5]) (by simp [j5]) (a0C _) w.heap.size w hbw hB5 ?_;intro wp5 hLn hbn hon;clear hL5 hbw hon;have hL5:=hLn;have hbw:=hbn;clear hLn hbn)
    go_ret
    exact ⟨m7 HX.out.symm,hbw⟩
theorem a3p {v:Value} {L:List Ar} {w:World} (h:SlAr w v L):Calls Tryz.prog 96 #[v] w (RB (.int .i64 (b4 L)) w):=by
 rcases h with ⟨p,c,rfl,rfl⟩|⟨b,off,cap,rfl,h2,h3,h4,h5⟩
 ·exact a2X p c w
 ·exact a2z b off cap h2 h3 h4 h5
theorem x6 {w:World} {v:Value} {L:List Ar} (h:Sl nF w 4 v (L.map arC)):SlAr w v L:=by
 rcases h with ⟨p,c,rfl,h⟩|⟨b,off,cap,rfl,h3,h4,hr⟩
 ·exact xc7 ⟨_,_,rfl,by simpa using h⟩
 ·rw [xj5] at h3 |-;refine xc4 ⟨b,off,cap,rfl,hr.lt,h3,h4,fun i a ha=>?_⟩;have hk:(L.map arC)[i]?=some (arC a):=by simp [ha]
  exact ⟨hr.cells i _ hk 0 _ rfl,hr.cells i _ hk 1 _ rfl,hr.cells i _ hk 2 _ rfl,hr.cells i _ hk 3 _ rfl⟩
theorem a3k {v:Value} {L:List Ar} {w:World} (h:Sl nF w 4 v (L.map arC)):Fn Tryz.prog 98 [v] w (RBf (.int .i64 (b4 L)) w) :=
 Fn.of_rb ⟨Tryz.func98,by kernel_rfl,by kernel_rfl⟩ (a1O (x6 h))
theorem a60 {M:List Ar} (hok:∀ (i:Nat) (a:Ar),M[i]?=some a->a.ok) (i:Nat):0<=l7 (M.take i)/\l7 (M.take i)<=255 * (i:Int):=by
 induction i with
 |zero=>simp [l7]
 |succ i ih=>
  cases ha:M[i]? with
  |none=>
   have:M.length<=i:=by simpa using ha
   rw [xa0 (by omega)] at ih |-;omega
  |some a=>
   rw [a1j ha];have:=hok i a ha;unfold Ar.ok at this;omega
end Go.Proofs.YtejnpppejalhfacGreat
