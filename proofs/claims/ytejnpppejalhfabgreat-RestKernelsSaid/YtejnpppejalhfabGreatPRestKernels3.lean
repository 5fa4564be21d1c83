/- Texts that the proof stands on, one behind the other: Ar4, Ar7, Ar8, Ar9, Ar10, Ar17, Tab, Sc12, Sc14, Sc15, Sc16, Sc17, Go, As1, As2, Ar19, Ar20, Ar21, Ar22, Ar23, Ar5, Ar11. -/
import Derived.Deep.DeepAppendWide
import Derived.Laws.OwnMore
import Derived.Laws.Cover2
import Derived.Test.YtejnpppejalhfabGreatProg
import Derived.OrdersHeld
import Derived.WalkLawsBesides
import Derived.Recover
import Derived.Laws.Strings2
import Derived.Laws.Strings3
import Derived.Maps.AppendAt
import Derived.Deep.RegionWith
import Derived.Deep.DeepCutAuto
import Derived.Lib.AppendZerosOnto
import Derived.Lib.Walk
import Derived.Test.YtejnpppejalhfabGreatPRestKernels2
set_option linter.unusedVariables false
set_option linter.unusedSimpArgs false
namespace Go.Proofs.YtejnpppejalhfabGreat
set_option maxRecDepth 100000
set_option maxHeartbeats 8000000
open Go.RowKit Go.Sort
theorem b0i {v:Value} {L:List Ar} {w:World} (h:SlAr w v L) (hc:l5 L=0):Calls Tryz.prog 57 #[v] w (RB (.int .i64 (y9 L)) w):=by
 obtain ⟨hlen,hg⟩:=x7.1 hc;have hok:=a0X hg;have HB:=hid (a7h hok);clear hc hg;rcases h with ⟨p,c,rfl,rfl⟩|⟨b,off,cap,rfl,hbl,hcap,hmax,t3⟩
 ·go_enter Tryz.func57,Tryz.ntmps57
  go_wp2
  go_loopw [3,4] (fun vn vi wr=>vn=.int .i64 0/\vi=.int .i64 0/\wr=w) (fun _ _ _=>0)
  case atStart=>exact ⟨rfl,rfl,rfl⟩
  case round=>
   obtain ⟨rfl,rfl,rfl⟩:=hrel
   go_wp2
   go_ret
   exact ⟨rfl,(by repeat ((with_reducible exact Below.refl _ _)))⟩
 ·unfold maxLen at hmax;have HL:=hid t3;have HO:=hid hok;clear t3 hok
  go_enter Tryz.func57,Tryz.ntmps57
  go_wp2
  go_loopw [3,4] (fun vn vi wr=>∃ i:Nat,i<=L.length/\vi=.int .i64 i/\vn=.int .i64 (y9 (L.take i))/\Below w.heap.size w wr) (fun _ vi _=>L.length - (intOf vi).toNat)
  case atStart=>exact ⟨0,by omega,rfl,by simp [y9],Below.refl _ _⟩
  case round=>
   obtain ⟨i,hi,rfl,rfl,hb⟩:=hrel;by_cases hlt:i < L.length
   ·obtain ⟨a,ha⟩:∃ a,L[i]?=some a:=⟨L[i],by simp [hlt]⟩;obtain ⟨c0,c1,c2,c3⟩:=(HL.out i a ha).grown hb hbl;have hbr:=a20 (xb7 hbl hb.size);have hsz:=hb.size;have hs:=a30 ha;have hn:=HB.out i hi;have hn2:=HO.out i a ha;unfold Ar.ok at hn2;have hw:wrap64 (y9 (L.take i) + a.n)=y9 (L.take i) + a.n:=z9 _ (by omega) (by omega);have HS:=hid hs;clear hs hn hn2;generalize y9 (L.take i)=q at *
    go_wp2
    go_roundw
    case rel=>exact ⟨i + 1,by omega,by go_num,by rw [HS.out,hw],(by repeat ((with_reducible assumption)))⟩
    case measure=>simp [intOf];omega
   ·go_wp2
    go_ret
    have:i=L.length:=by omega
    subst this;exact ⟨a0k (by simp),hb⟩
def a2L:Ar:=⟨0,0,0,false⟩
def a0g (page:Int) (a:Ar):Bool:=decide (a.pg<=page/\page < a.fin)
def q8 (L:List Ar) (page:Int):Option Ar:=L.find? (a0g page)
theorem a6A {L:List Ar} {page:Int}:∀ {i:Nat} {a:Ar},(∀ (j:Nat) (b:Ar),j < i->L[j]?=some b->a0g page b=false)->L[i]?=some a->a0g page a=true->q8 L page=some a:=by
 unfold q8
 induction L with
 |nil=>intro i a _ h;simp at h
 |cons c L ih=>
  intro i a h1 h2 h3
  cases i with
  |zero=>simp at h2;subst h2;rw [List.find?_cons,h3]
  |succ i=>
   have hc:=h1 0 c (by omega) rfl;rw [List.find?_cons,hc];exact ih (i:=i) (fun j b hj hb=>h1 (j + 1) b (by omega) (by simpa using hb)) (by simpa using h2) h3
theorem a4C {L:List Ar} {page:Int} (h:∀ (j:Nat) (b:Ar),j < L.length->L[j]?=some b->a0g page b=false):q8 L page=none:=by
 unfold q8;rw [xn4];intro x hx;obtain ⟨j,hj,rfl⟩:=List.getElem_of_mem hx;have:=h j L[j] hj (by simp);simp [this]
def zl4:List Value:=[.int .i64 0,.int .i64 0,.int .i64 0,.bool false]
def a3j (o:Option Ar):Value:=.tuple #[.agg (arC (o.getD a2L)).toArray,.bool o.isSome]
theorem b0T {v:Value} {L:List Ar} {w:World} (page:Int) (h:SlAr w v L) (hok:∀ (i:Nat) (a:Ar),L[i]?=some a->a.ok):Calls Tryz.prog 30 #[v,.int .i64 page] w (RB (a3j (q8 L page)) w):=by
 have hsz:(Tryz.prog.info? 81).map (·.size)=some 4:=by kernel_rfl
 have Hsz:=hid hsz;clear hsz;have hbw:=Below.refl w.heap.size w;rcases h with ⟨p,c,rfl,rfl⟩|⟨b,off,cap,rfl,hbl,hcap,hmax,t3⟩
 ·go_enter Tryz.func30,Tryz.ntmps30
  go_wp2_with (first|(with_reducible refine a01 4 ?_);refine o9 rfl (some 4) rfl (zl4) 81 (by kernel_rfl) w.heap.size w hbw hbw.size ?_;intro g4 wn4 hL4 hB4 hbn hkn hnn;skip;clear hbw hkn hnn;have hbw:=hbn;clear hbn)
  go_loopw [6] (fun vi wr=>vi=.int .i64 0/\wr=wn4) (fun _ _=>0)
  case atStart=>exact ⟨rfl,rfl⟩
  case round=>
   obtain ⟨rfl,rfl⟩:=hrel
   go_wp2_with (first|(with_reducible refine a0b 4 ?_);refine n6 rfl 81 (.tmp 4) (.tmp 39) rfl rfl g4 (zl4) (zl4) rfl rfl hL4 Hsz.out rfl rfl w.heap.size w hbw hB4 ?_;intro wp4 hLn hbn hon;skip;clear hL4 hbw hon;have hL4:=hLn;have hbw:=hbn;clear hLn hbn)
   refine bodyPost_ret (v:=.tuple #[.agg (zl4).toArray,.bool false]) (x9 rfl _ g4 (zl4) (.bool false) _ rfl rfl hL4 Tryz.underlying81 rfl Hsz.out) rfl ⟨by rw [(show q8 [] page=none from rfl)];rfl,hbw⟩
 ·unfold maxLen at hmax;have HL:=hid t3;have HO:=hid hok;clear t3 hok
  go_enter Tryz.func30,Tryz.ntmps30
  go_wp2_with (first|(with_reducible refine a01 4 ?_);refine o9 rfl (some 4) rfl (zl4) 81 (by kernel_rfl) w.heap.size w hbw hbw.size ?_;intro g4 wn4 hL4 hB4 hbn hkn hnn;skip;clear hbw hkn hnn;have hbw:=hbn;clear hbn)
  go_loopw [6] (fun vi wr=>∃ i:Nat,i<=L.length/\vi=.int .i64 i/\Below w.heap.size w wr/\HoldL wr g4 zl4/\Hid (∀ (j:Nat) (b:Ar),j < i->L[j]?=some b->a0g page b=false)) (fun vi _=>L.length - (intOf vi).toNat)
  case atStart=>exact ⟨0,by omega,rfl,hbw,hL4,fun j b hj=>by omega⟩
  case round=>
   clear hbw hL4;obtain ⟨i,hi,rfl,hbw,hL4,HN⟩:=hrel;by_cases hlt:i < L.length
   ·obtain ⟨a,ha⟩:∃ a,L[i]?=some a:=⟨L[i],by simp [hlt]⟩;obtain ⟨c0,c1,c2,c3⟩:=(HL.out i a ha).grown hbw hbl;have hao:=HO.out i a ha;have hfw:=a3r hao;have hbr:=a20 (xb7 hbl hbw.size);have hsz:=hbw.size;have HF:Hid (a0g page a=decide (a.pg<=page/\page < a.fin)):=hid rfl;have hdef:a.fin=a.pg + a.n:=rfl;rw [hdef] at hfw;have HD:=hid hdef;clear hdef hao;by_cases h1:a.pg<=page
    ·by_cases h2:page < a.fin
     ·have HX:Hid (q8 L page=some a):=a6A HN.out ha (by rw [HF.out];simp [h1,h2]);have h1':decide (a.pg<=page)=true:=by simpa using h1
      have h2':decide (page < a.pg + a.n)=true:=by simpa [<- HD.out] using h2
      clear h1 h2
      go_wp2
      refine wp_region_quiet_below (by kernel_rfl) (by kernel_rfl) ?_
      repeat ((go_big_quiet_step ((fail))))
      refine wpQuiet_nil ?_;intro wq hw';obtain ⟨⟨dq,osq⟩,hw''⟩:=hw';have hbr:=t2 hw'';clear hw''
      first
       |(have hbn:=bt hbq hbr;clear hcq hfq hzq hbq hbr;have hbq:=hbn;clear hbn)
       |(have hbq:=hbr;clear hbr)
      obtain ⟨hcq,hfq,hzq⟩:=a0V hbq;have hL4:=hL4.grown hbq hL4.lt;have hbw:=bt hbw hbq
      go_wp2_with (first|(with_reducible refine a0b 4 ?_);refine n6 rfl 81 (.tmp 4) (.tmp 38) rfl rfl g4 ([.int .i64 a.pg,.int .i64 a.n,.int .i64 a.prot,.bool a.z]) (zl4) rfl rfl hL4 Hsz.out rfl rfl w.heap.size w hbw hB4 ?_;intro wp4 hLn hbn hon;skip;clear hL4 hbw hon;have hL4:=hLn;have hbw:=hbn;clear hLn hbn)
      refine bodyPost_ret (v:=.tuple #[.agg ([.int .i64 a.pg,.int .i64 a.n,.int .i64 a.prot,.bool a.z]).toArray,.bool true]) (x9 rfl _ g4 ([.int .i64 a.pg,.int .i64 a.n,.int .i64 a.prot,.bool a.z]) (.bool true) _ rfl rfl hL4 Tryz.underlying81 rfl Hsz.out) rfl ⟨by rw [HX.out];rfl,hbw⟩
     ·have HX:Hid (a0g page a=false):=by refine hid ?_;rw [HF.out];simp [h2]
      have h1':decide (a.pg<=page)=true:=by simpa using h1
      have h2':decide (page < a.pg + a.n)=false:=by simpa [<- HD.out] using h2
      clear h1 h2
      go_wp2
      refine wp_region_quiet_below (by kernel_rfl) (by kernel_rfl) ?_
      repeat ((go_big_quiet_step ((fail))))
      refine wpQuiet_nil ?_;intro wq hw';obtain ⟨⟨dq,osq⟩,hw''⟩:=hw';have hbr:=t2 hw'';clear hw''
      first
       |(have hbn:=bt hbq hbr;clear hcq hfq hzq hbq hbr;have hbq:=hbn;clear hbn)
       |(have hbq:=hbr;clear hbr)
      obtain ⟨hcq,hfq,hzq⟩:=a0V hbq;have hL4:=hL4.grown hbq hL4.lt;have hbw:=bt hbw hbq
      go_wp2
      go_roundw
      case rel=>
       refine ⟨i + 1,by omega,by go_num,hbw,hL4,fun j b hj hb=>?_⟩;rcases xp8.1 hj with h|h
       ·exact HN.out j b h hb
       ·subst h;rw [ha] at hb;cases hb;exact HX.out
      case measure=>simp [intOf];omega
    ·have HX:Hid (a0g page a=false):=by refine hid ?_;rw [HF.out];simp [h1]
     have h1':decide (a.pg<=page)=false:=by simpa using h1
     clear h1
     go_wp2
     refine wp_region_quiet_below (by kernel_rfl) (by kernel_rfl) ?_
     repeat ((go_big_quiet_step ((fail))))
     refine wpQuiet_nil ?_;intro wq hw';obtain ⟨⟨dq,osq⟩,hw''⟩:=hw';have hbr:=t2 hw'';clear hw''
     first
      |(have hbn:=bt hbq hbr;clear hcq hfq hzq hbq hbr;have hbq:=hbn;clear hbn)
      |(have hbq:=hbr;clear hbr)
     obtain ⟨hcq,hfq,hzq⟩:=a0V hbq;have hL4:=hL4.grown hbq hL4.lt;have hbw:=bt hbw hbq
     go_wp2
     go_roundw
     case rel=>
      refine ⟨i + 1,by omega,by go_num,hbw,hL4,fun j b hj hb=>?_⟩;rcases xp8.1 hj with h|h
      ·exact HN.out j b h hb
      ·subst h;rw [ha] at hb;cases hb;exact HX.out
     case measure=>simp [intOf];omega
   ·have:i=L.length:=by omega
    subst this;have HX:=hid (a4C HN.out)
    go_wp2_with (first|(with_reducible refine a0b 4 ?_);refine n6 rfl 81 (.tmp 4) (.tmp 39) rfl rfl g4 (zl4) (zl4) rfl rfl hL4 Hsz.out rfl rfl w.heap.size w hbw hB4 ?_;intro wp4 hLn hbn hon;skip;clear hL4 hbw hon;have hL4:=hLn;have hbw:=hbn;clear hLn hbn)
    refine bodyPost_ret (v:=.tuple #[.agg (zl4).toArray,.bool false]) (x9 rfl _ g4 (zl4) (.bool false) _ rfl rfl hL4 Tryz.underlying81 rfl Hsz.out) rfl ⟨by rw [HX.out];rfl,hbw⟩
theorem b3u (prot:Int) (z:Bool) (h:0<=prot/\prot<=3) (w:World):Calls Tryz.prog 165 #[.int .i64 prot,.bool z] w fun e w'=>e=.returned (.int .i64 (1 + 2 * prot + (if z then 8 else 0)))/\w=w':=by
 obtain ⟨h1,h2⟩:=h
 cases z
 ·go_enter Tryz.func165,Tryz.ntmps165
  go_wp2
  go_ret
  exact ⟨a0k (by simp),rfl⟩
 ·go_enter Tryz.func165,Tryz.ntmps165
  go_wp2
  go_ret
  exact ⟨a0k (by simp),rfl⟩
def bdC (b:Int->Int):List Value:=(List.range 256).map fun p:Nat=>Value.int .i64 (b p)
theorem v7 (b:Int->Int):(bdC b).length=256:=by simp [bdC]
theorem b0e (b:Int->Int) (p:Nat) (h:p < 256):(bdC b)[p]?=some (.int .i64 (b p)):=by simp [bdC,h]
theorem b4Q (b:Int->Int) (p:Nat) (n:Int):(bdC b).set p (.int .i64 n)=bdC (fun x=>if x=p then n else b x):=by
 apply xh1;intro i;by_cases hi:i < 256
 ·rw [b0e _ _ hi];by_cases e:p=i
  ·subst e;rw [List.getElem?_set_self (by rw [v7];exact hi)];simp
  ·rw [xn1 e,b0e _ _ hi];rw [xf1 (by omega)]
 ·rw [xh8 (by rw [xa8,v7];omega),xh8 (by rw [v7];omega)]
theorem a8v {b b':Int->Int} (h:∀ p:Int,0<=p->p<=255->b p=b' p):bdC b=bdC b':=by
 unfold bdC;apply List.map_congr_left;intro p hp;rw [xi4] at hp;rw [h p (by omega) (by omega)]
theorem a3e (b:Int->Int):(bdC b).all (·.oneCell')=true:=by simp [bdC,Value.oneCell']
theorem b0a {o:List Ar} {a:Ar} {e:Int} (h:x6 e (o++[a])) (p:Int):s7 (o++[a]) p=if a.pg<=p/\p < a.fin then a.mk' else s7 o p:=by
 rw [b2A h];simp only [s7]
 split
 ·rename_i hc;have h2:=a2i.1 h;rw [a9X h2.1 (by have:=h2.2.2.1;omega)];omega
 ·omega
theorem b0R {L:List Ar} {i:Nat} {a:Ar} (ha:L[i]?=some a):L.take (i + 1)=L.take i++[a]:=by
 obtain ⟨hi,rfl⟩:=xa7.1 ha;rw [List.take_succ_eq_append_getElem hi]
theorem b2H {L:List Ar} {e:Int} (h:x6 e L) (i:Nat):x6 e (L.take i):=by
 rw [<- xj4 i L] at h;exact (a2i.1 h).1
theorem a7Q {o:List Ar} {a:Ar} {e:Int}:x6 e (o++[a]) ↔ x6 e o/\a.ok/\a1k e o<=a.pg:=by
 rw [a2i];exact ⟨fun ⟨h1,h2,h3,_⟩=>⟨h1,h2,h3⟩,fun ⟨h1,h2,h3⟩=>⟨h1,h2,h3,trivial⟩⟩
def a3I (o:List Ar) (a:Ar) (q:Int) (x:Int):Int:=if a.pg<=x/\x < q then a.mk' else s7 o x
theorem a8E (o:List Ar) (a:Ar):bdC (a3I o a a.pg)=bdC (s7 o):=a8v fun p _ _=>by unfold a3I;rw [xf1 (by omega)]
theorem a9W (o:List Ar) (a:Ar) (q:Nat) (h:a.pg<=q):(bdC (a3I o a q)).set q (.int .i64 a.mk')=bdC (a3I o a ((q:Int) + 1)):=by
 rw [b4Q];refine a8v fun p _ _=>?_;unfold a3I;by_cases e:p=q
 ·rw [xf0 e,xf0 (by omega)]
 ·rw [xf1 e];by_cases c:a.pg<=p/\p < q
  ·rw [xf0 c,xf0 (by omega)]
  ·rw [xf1 c,xf1 (by omega)]
theorem b0F {o:List Ar} {a:Ar} {e:Int} (h:x6 e (o++[a])):bdC (a3I o a a.fin)=bdC (s7 (o++[a])):=a8v fun p _ _=>by
 rw [b0a h];rfl
instance riseDec:(e:Int)->(l:List Ar)->Decidable (x6 e l)
 |_,[]=>isTrue trivial
 |e,a::l=>by
  unfold x6;have:=riseDec a.fin l
  infer_instance
def a1P (L:List Ar) (w:World) (e:Ending) (w':World):Prop :=
 ∃ b:Int->Int,e=.returned (.tuple #[.agg (bdC b).toArray,.bool (decide (x6 1 L))])/\Below w.heap.size w w'/\(x6 1 L->bdC b=bdC (s7 L))
theorem b04 {L:List Ar} (h:x6 1 L):1<=a1k 1 L:=a4P h
theorem b1O (p:Option Addr) (c:Nat) (w:World):Calls Tryz.prog 150 #[.slice p 0 c] w (a1P [] w):=by
 have hszb:(Tryz.prog.info? 278).map (·.size)=some 256:=by kernel_rfl
 have Hszb:=hid hszb;clear hszb;have hbw:=Below.refl w.heap.size w
 go_enter Tryz.func150,Tryz.ntmps150
 go_wp2_with (first|(with_reducible refine a01 2 ?_);refine o9 rfl (some 2) rfl (bdC (fun _=>0)) 278 (by kernel_rfl) w.heap.size w hbw hbw.size ?_;intro g2 wn2 hL2 hB2 hbn hkn hnn;skip;clear hbw hkn hnn;have hbw:=hbn;clear hbn|(with_reducible refine a01 4 ?_);refine o9 rfl (some 4) rfl (bdC (fun _=>0)) 278 (by kernel_rfl) w.heap.size w hbw hbw.size ?_;intro g4 wn4 hL4 hB4 hbn hkn hnn;(try have n2_4:=hnn _ hL2.lt);(try have n4_2:=Ne.symm (hnn _ hL2.lt));(try have hL2:=hL2.kept hkn);clear hbw hkn hnn;have hbw:=hbn;clear hbn)
 go_loopw [5,6] (fun vl vi wr=>vl=.int .i64 0/\vi=.int .i64 0/\wr=wn4) (fun _ _ _=>0)
 case atStart=>exact ⟨rfl,rfl,rfl⟩
 case round=>
  obtain ⟨rfl,rfl,rfl⟩:=hrel
  go_wp2_with (first|(with_reducible refine a01 44 ?_);refine a2w rfl 278 (.tmp 4) rfl g4 (bdC (fun _=>0)) rfl hL4 _ Tryz.underlying278 rfl (by rw [Hszb.out,v7]) ?_|(with_reducible refine a0b 2 ?_);refine n6 rfl 278 (.tmp 2) (.tmp 44) rfl rfl g2 (bdC (fun _=>0)) (bdC (fun _=>0)) rfl rfl hL2 (by rw [Hszb.out,v7]) (by simp [v7]) (a3e _) w.heap.size w hbw hB2 ?_;intro wp2 hLn hbn hon;(try have hL4:=hL4.other hon n4_2);clear hL2 hbw hon;have hL2:=hLn;have hbw:=hbn;clear hLn hbn)
  refine bodyPost_ret (v:=.tuple #[.agg (bdC (fun _=>0)).toArray,.bool true]) (x9 rfl _ g2 (bdC (fun _=>0)) (.bool true) _ rfl rfl hL2 Tryz.underlying278 rfl (by rw [Hszb.out,v7])) rfl ?_;exact ⟨fun _=>0,rfl,hbw,fun _=>rfl⟩
theorem b2q {L:List Ar} {w:World} (b off cap:Nat) (hbl:b < w.heap.size) (t3:∀ i a,L[i]?=some a->CellsAr w b (off + i * 4) a) (hok:∀ (i:Nat) (a:Ar),L[i]?=some a->a.ok) (hlen:L.length<=255) :
  Calls Tryz.prog 150 #[.slice (some ⟨b,off,none⟩) L.length cap] w (a1P L w):=by
 have hszb:(Tryz.prog.info? 278).map (·.size)=some 256:=by kernel_rfl
 have Hszb:=hid hszb;clear hszb;have hsz:(Tryz.prog.info? 81).map (·.size)=some 4:=by kernel_rfl
 have Hsz:=hid hsz;clear hsz;have hsz:(Tryz.prog.info? 3).map (·.size)=some 1:=by kernel_rfl
 have Hsz1:=hid hsz;clear hsz;have HL:=hid t3;have HO:=hid hok;clear t3 hok;have hbw:=Below.refl w.heap.size w
 go_enter Tryz.func150,Tryz.ntmps150
 go_wp2_with (first|(with_reducible refine a01 2 ?_);refine o9 rfl (some 2) rfl (bdC (fun _=>0)) 278 (by kernel_rfl) w.heap.size w hbw hbw.size ?_;intro g2 wn2 hL2 hB2 hbn hkn hnn;skip;clear hbw hkn hnn;have hbw:=hbn;clear hbn|(with_reducible refine a01 4 ?_);refine o9 rfl (some 4) rfl (bdC (fun _=>0)) 278 (by kernel_rfl) w.heap.size w hbw hbw.size ?_;intro g4 wn4 hL4 hB4 hbn hkn hnn;(try have n2_4:=hnn _ hL2.lt);(try have n4_2:=Ne.symm (hnn _ hL2.lt));(try have hL2:=hL2.kept hkn);clear hbw hkn hnn;have hbw:=hbn;clear hbn)
 go_loopw [5,6] (fun vl vi wr=>∃ i:Nat,i<=L.length/\vi=.int .i64 i/\vl=.int .i64 (a1k 1 (L.take i) - 1)/\Below w.heap.size w wr/\HoldL wr g4 (bdC (s7 (L.take i)))/\HoldL wr g2 (bdC (fun _=>0))/\Hid (x6 1 (L.take i))) (fun _ vi _=>L.length - (intOf vi).toNat)
 case atStart=>exact ⟨0,by omega,rfl,rfl,hbw,hL4,hL2,trivial⟩
 case round=>
  clear hbw hL4 hL2;obtain ⟨i,hi,rfl,rfl,hbw,hL4,hL2,HR⟩:=hrel;by_cases hlt:i < L.length
  ·obtain ⟨a,ha⟩:∃ a,L[i]?=some a:=⟨L[i],by simp [hlt]⟩;obtain ⟨c0,c1,c2,c3⟩:=(HL.out i a ha).grown hbw hbl;have hao:=HO.out i a ha;have hbr:=a20 (xb7 hbl hbw.size);have HT:=hid (b0R ha);by_cases hr:a1k 1 (L.take i)<=a.pg
   ·have HX:Hid (x6 1 (L.take i++[a])):=a7Q.2 ⟨HR.out,hao,hr⟩;have hpos:=b04 HR.out;have hok:=hao;unfold Ar.ok at hok;have hfin:a.fin=a.pg + a.n:=rfl;have hw1:wrap64 (a.pg + a.n)=a.fin:=by rw [hfin];exact z9 _ (by omega) (by omega)
    have hw2:wrap64 (a.fin - 1)=a.fin - 1:=by rw [hfin];exact z9 _ (by omega) (by omega)
    have hlt2:a1k 1 (L.take i) - 1 < a.pg:=by omega
    obtain ⟨q0,hq0⟩:=xp9 (show 0<=a.pg by omega);have hmk:Hid (a.mk'=1 + 2 * a.prot + (if a.z then 8 else 0)):=hid rfl;have HM:=hid (fun w=>b1z (b3u a.prot a.z ⟨by omega,by omega⟩ w));rw [<- hmk.out] at HM;have HS:=hid (a8E (L.take i) a);have HE:=hid (b0F HX.out);have HP:=hid (fun q:Nat=>a9W (L.take i) a q);have HK:=hid (show ∀ q:Nat,(q:Int) < a.fin->q < 256 from fun q h=>by omega);have hqb:(q0:Int)<=a.fin:=by omega
    have HQ:=hid hq0;clear hr hao hok hpos hfin hq0;have HLT:=hid hlt;generalize hlst:a1k 1 (L.take i) - 1=lst at *;clear hlst
    go_wp2_with (first|(with_reducible refine a01 7 ?_);refine o9 rfl (some 7) rfl (zl4) 81 (by kernel_rfl) w.heap.size w hbw hbw.size ?_;intro g7 wn7 hL7 hB7 hbn hkn hnn;(try have n2_7:=hnn _ hL2.lt);(try have n7_2:=Ne.symm (hnn _ hL2.lt));(try have hL2:=hL2.kept hkn);(try have n4_7:=hnn _ hL4.lt);(try have n7_4:=Ne.symm (hnn _ hL4.lt));(try have hL4:=hL4.kept hkn);clear hbw hkn hnn;have hbw:=hbn;clear hbn|((with_reducible refine a0b 7 ?_);refine n6 rfl 81 (.tmp 7) (.tmp 18) rfl rfl g7 ([.int .i64 a.pg,.int .i64 a.n,.int .i64 a.prot,.bool a.z]) (zl4) rfl rfl hL7 Hsz.out rfl rfl w.heap.size w hbw hB7 ?_;intro wp7 hLn hbn hon;(try have hL2:=hL2.other hon n2_7);(try have hL4:=hL4.other hon n4_7);clear hL7 hbw hon;have hL7:=hLn;have hbw:=hbn;clear hLn hbn);have d0:wp7.cell? ⟨g7,0,none⟩=some (.int .i64 a.pg):=hL7.cell 0;have d1:wp7.cell? ⟨g7,1,none⟩=some (.int .i64 a.n):=hL7.cell 1)
    rw [hw1,hw2];clear hw1 hw2
    go_loopw [8] (fun vp wr=>∃ q:Nat,(a.pg<=q/\(q:Int)<=a.fin)/\vp=.int .i64 q/\Below w.heap.size w wr/\HoldL wr g4 (bdC (a3I (L.take i) a q))/\HoldL wr g2 (bdC (fun _=>0))/\HoldL wr g7 [.int .i64 a.pg,.int .i64 a.n,.int .i64 a.prot,.bool a.z]) (fun vp _=>(a.fin - intOf vp).toNat)
    case atStart=>
     refine ⟨q0,⟨Int.le_of_eq HQ.out,hqb⟩,by rw [HQ.out],hbw,?_,hL2,hL7⟩;have:=HS.out;rw [HQ.out] at this;rw [this];exact hL4
    case round=>
     clear hbw hL4 hL2 hL7;obtain ⟨q,⟨hq1,hq2⟩,rfl,hbw,hL4,hL2,hL7⟩:=hrel;have e2:=hL7.cell 2;have e3:=hL7.cell 3;by_cases hq:(q:Int) < a.fin
     ·have hq256:=HK.out q hq;have hq6:(q:Int) < 256:=by omega
      have hle:(q:Int)<=a.fin - 1:=by omega
      have HMONO:Hid (a.pg<=((q + 1:Nat):Int)/\((q + 1:Nat):Int)<=a.fin):=hid (by omega);have HMS:Hid ((a.fin - ((q:Int) + 1)).toNat < (a.fin - (q:Int)).toNat):=hid (by omega);have HWS:Hid (wrap64 ((q:Int) + 1)=(q:Int) + 1):=hid (z9 _ (by omega) (by omega));have HQ1:=hid hq1;clear hq1 hq2 hq hq256
      go_wp2_with (first|(go_at_call 165;(with_reducible refine (HM.out _).mono ?_);rintro e wc ⟨rfl,hbc⟩);have hL4:=hL4.grown hbc hL4.lt;have hL2:=hL2.grown hbc hL2.lt;have hL7:=hL7.grown hbc hL7.lt;have hbn:=bt hbw hbc;clear hbw hbc;have hbw:=hbn;clear hbn|(with_reducible refine a0b 43 ?_);refine a5Z rfl 3 (.tmp 43) (.tmp 42) rfl rfl Hsz1.out g4 q a.mk' rfl rfl (bdC (a3I (L.take i) a q)) hL4 (by rw [v7];exact Int.ofNat_lt.1 hq6) w.heap.size w hbw hB4 ?_;intro w6 hL46 hbw6 ho6;rw [HP.out q HQ1.out] at hL46;have hL2:=hL2.other ho6 n2_4;have hL7:=hL7.other ho6 n7_4)
      go_roundw
      case rel=>exact ⟨q + 1,HMONO.out,rfl,hbw6,hL46,hL2,hL7⟩
      case measure=>exact HMS.out
     ·have hqe:(q:Int)=a.fin:=by omega
      have hnl:a.fin - 1 < (q:Int):=by omega
      rw [hqe,HE.out] at hL4;have HQE:=hid hqe;clear hqe;have HWI:Hid (wrap64 ((i:Int) + 1)=(i:Int) + 1):=hid (z9 _ (by omega) (by omega));have HMS:Hid (L.length - ((i:Int) + 1).toNat < L.length - (i:Int).toNat):=hid (by omega);clear hq1 hq2 hq
      go_wp2
      refine ⟨⟨i + 1,hlt,rfl,?_,hbw,?_,hL2,?_⟩,?_⟩
      ·rw [HT.out,b0n]
      ·rw [HT.out];exact hL4
      ·rw [HT.out];exact HX.out
      ·exact HMS.out
   ·have HX:Hid (¬ x6 1 L):=fun h=>by
     have:=b2H h (i + 1);rw [HT.out,a7Q] at this;exact hr this.2.2
    have hle:a.pg<=a1k 1 (L.take i) - 1:=by omega
    clear hr HT hao;generalize a1k 1 (L.take i) - 1=lst at *;generalize s7 (L.take i)=bb at *
    go_wp2_with (first|(with_reducible refine a01 7 ?_);refine o9 rfl (some 7) rfl (zl4) 81 (by kernel_rfl) w.heap.size w hbw hbw.size ?_;intro g7 wn7 hL7 hB7 hbn hkn hnn;(try have n2_7:=hnn _ hL2.lt);(try have n7_2:=Ne.symm (hnn _ hL2.lt));(try have hL2:=hL2.kept hkn);(try have n4_7:=hnn _ hL4.lt);(try have n7_4:=Ne.symm (hnn _ hL4.lt));(try have hL4:=hL4.kept hkn);clear hbw hkn hnn;have hbw:=hbn;clear hbn|((with_reducible refine a0b 7 ?_);refine n6 rfl 81 (.tmp 7) (.tmp 18) rfl rfl g7 ([.int .i64 a.pg,.int .i64 a.n,.int .i64 a.prot,.bool a.z]) (zl4) rfl rfl hL7 Hsz.out rfl rfl w.heap.size w hbw hB7 ?_;intro wp7 hLn hbn hon;(try have hL2:=hL2.other hon n2_7);(try have hL4:=hL4.other hon n4_7);clear hL7 hbw hon;have hL7:=hLn;have hbw:=hbn;clear hLn hbn);have d0:wp7.cell? ⟨g7,0,none⟩=some (.int .i64 a.pg):=hL7.cell 0|(with_reducible refine a01 23 ?_);refine a2w rfl 278 (.tmp 4) rfl g4 (bdC bb) rfl hL4 _ Tryz.underlying278 rfl (by rw [Hszb.out,v7]) ?_|(with_reducible refine a0b 2 ?_);refine n6 rfl 278 (.tmp 2) (.tmp 23) rfl rfl g2 (bdC bb) (bdC (fun _=>0)) rfl rfl hL2 (by rw [Hszb.out,v7]) (by simp [v7]) (a3e _) w.heap.size w hbw hB2 ?_;intro wp2 hLn hbn hon;(try have hL4:=hL4.other hon n4_2);(try have hL7:=hL7.other hon n7_2);clear hL2 hbw hon;have hL2:=hLn;have hbw:=hbn;clear hLn hbn)
    refine bodyPost_ret (v:=.tuple #[.agg (bdC bb).toArray,.bool false]) (x9 rfl _ g2 (bdC bb) (.bool false) _ rfl rfl hL2 Tryz.underlying278 rfl (by rw [Hszb.out,v7])) rfl ?_;exact ⟨bb,by rw [xj0 HX.out],hbw,fun h=>absurd h HX.out⟩
  ·have:i=L.length:=by omega
   subst this;rw [xg6] at hL4 HR
   go_wp2_with (first|(with_reducible refine a01 44 ?_);refine a2w rfl 278 (.tmp 4) rfl g4 (bdC (s7 L)) rfl hL4 _ Tryz.underlying278 rfl (by rw [Hszb.out,v7]) ?_|(with_reducible refine a0b 2 ?_);refine n6 rfl 278 (.tmp 2) (.tmp 44) rfl rfl g2 (bdC (s7 L)) (bdC (fun _=>0)) rfl rfl hL2 (by rw [Hszb.out,v7]) (by simp [v7]) (a3e _) w.heap.size w hbw hB2 ?_;intro wp2 hLn hbn hon;(try have hL4:=hL4.other hon n4_2);clear hL2 hbw hon;have hL2:=hLn;have hbw:=hbn;clear hLn hbn)
   refine bodyPost_ret (v:=.tuple #[.agg (bdC (s7 L)).toArray,.bool true]) (x9 rfl _ g2 (bdC (s7 L)) (.bool true) _ rfl rfl hL2 Tryz.underlying278 rfl (by rw [Hszb.out,v7])) rfl ?_;exact ⟨s7 L,by rw [xj2 HR.out],hbw,fun _=>rfl⟩
def a36 (L:List Ar):List Value:=L.flatMap arC
theorem a41 (L:List Ar):(a36 L).length=L.length * 4:=by
 induction L with
 |nil=>rfl
 |cons a L ih=>unfold a36 at *;simp [arC,ih];omega
theorem a3T (L:List Ar) (a:Ar):a36 (L++[a])=a36 L++arC a:=by simp [a36]
theorem b2V (L:List Ar) (a:Ar) (n:Int):a36 (L++[{ a with n:=n }])=(a36 (L++[a])).set (L.length * 4 + 1) (.int .i64 n):=by
 rw [a3T,a3T,xf5 _ _ (by rw [a41];omega),a41,show L.length * 4 + 1 - L.length * 4=1 by omega];rfl
theorem b40 (L:List Ar) (a:Ar) (j:Nat) (h:j < 4):(a36 (L++[a]))[L.length * 4 + j]?=(arC a)[j]?:=by
 rw [a3T,xa5 (by rw [a41];omega),a41,show L.length * 4 + j - L.length * 4=j by omega]
theorem a4O {L:List Ar}:∀ {i:Nat} {a:Ar},L[i]?=some a->∀ j:Nat,j < 4->(a36 L)[i * 4 + j]?=(arC a)[j]?:=by
 induction L with
 |nil=>intro i a h;simp at h
 |cons c L ih=>
  intro i a h j hj;have e:a36 (c::L)=arC c++a36 L:=rfl;rw [e]
  cases i with
  |zero=>
   simp at h;subst h;rw [xa6 (by simp [arC];omega)];simp
  |succ i=>
   rw [xa5 (by simp [arC];omega),show (i + 1) * 4 + j - (arC c).length=i * 4 + j by simp [arC];omega];exact ih (by simpa using h) j hj
theorem b0f {w:World} {base:Nat} {e:TypeId} {v:Value} {L:List Ar} (h:w.ownsRow base e 4 v L.length (a36 L)):SlAr w v L:=by
 rcases h.2 with ⟨rfl,hn⟩|⟨g,cap,cur,rfl,hb,hg,hnc,hcm,_⟩
 ·exact xd6 ⟨_,_,rfl,xf3 hn⟩
 ·have hlt:=(xb8.1 hg).1;refine xd3 ⟨g,0,cap,rfl,hlt,hnc,hcm,fun i a ha=>?_⟩;obtain ⟨hi,_⟩:=xa7.1 ha;refine ⟨?_,?_,?_,?_⟩
  ·have:=h.cellAt (i * 4 + 0) (by omega);rw [a4O ha 0 (by decide)] at this;simpa [arC] using this
  ·have:=h.cellAt (i * 4 + 1) (by omega);rw [a4O ha 1 (by decide)] at this;simpa [arC] using this
  ·have:=h.cellAt (i * 4 + 2) (by omega);rw [a4O ha 2 (by decide)] at this;simpa [arC] using this
  ·have:=h.cellAt (i * 4 + 3) (by omega);rw [a4O ha 3 (by decide)] at this;simpa [arC] using this
theorem a76 {w w':World} {base:Nat} {e:TypeId} {size n:Nat} {v:Value} {xs:List Value} (h:w.ownsRow base e size v n xs) (hb:Below w.heap.size w w'):w'.ownsRow base e size v n xs:=by
 refine ⟨h.1,?_⟩;rcases h.2 with hn|⟨g,cap,cur,rfl,hbg,hgg,rest⟩
 ·exact .inl hn
 ·exact .inr ⟨g,cap,cur,rfl,hbg,by rw [hb.block g (xb8.1 hgg).1];exact hgg,rest⟩
theorem b18 (b:Int->Int) (k:Nat):∀ a ∈ a0q b k,1<=a.pg/\1<=a.n:=by
 induction k with
 |zero=>intro a h;simp [a0q] at h
 |succ k ih=>
  unfold a0q a2D
  split
  ·exact ih
  split
  ·intro a h;rcases List.eq_nil_or_concat (a0q b k) with e|⟨l,c,e⟩
   ·rw [e] at h;simp [a2c] at h
   ·rw [e] at ih h;simp only [List.concat_eq_append] at ih h;rw [a2C] at h;rcases xe3.1 h with h|h
    ·exact ih a (xe3.2 (xd6 h))
    ·have:a={ c with n:=c.n + 1 }:=by simpa using h
     subst this;have:=ih c (by simp);exact ⟨this.1,by simp only;omega⟩
  ·intro a h;rcases xe3.1 h with h|h
   ·exact ih a h
   ·rw [xi8] at h;rw [h];exact ⟨by simp only;omega,by simp only;omega⟩
theorem b2U (b:Int->Int) (k:Nat):(a0q b k).length<=k:=by
 induction k with
 |zero=>simp [a0q]
 |succ k ih=>
  unfold a0q a2D
  split
  ·omega
  split
  ·rcases List.eq_nil_or_concat (a0q b k) with e|⟨l,c,e⟩
   ·rw [e];simp [a2c]
   ·rw [e] at ih |-;simp only [List.concat_eq_append] at ih |-;rw [a2C];simp at ih |-;omega
  ·simp;omega
def b5J (base:Nat) (w:World) (v:Value) (L:List Ar):Prop:=w.ownsRow base 81 4 v L.length (a36 L)
theorem b4s {w:World} {base base':Nat} {v:Value} {L:List Ar} (h:w.ownsRow base 81 4 v L.length (a36 L)) (hb:base'<=base):b5J base' w v L:=by
 refine ⟨h.1,?_⟩;rcases h.2 with hn|⟨g,cap,cur,rfl,hg,rest⟩
 ·exact .inl hn
 ·exact .inr ⟨g,cap,cur,rfl,xd5 hb hg,rest⟩
def b2B (L:List Ar) (w:World) (e:Ending) (w':World):Prop:=∃ v,e=.returned v/\b5J w.heap.size w' v L/\Below w.heap.size w w'
theorem b2C:∃ i,(Tryz.prog).info? 81=some i/\i.zero=some (.agg #[.int .i64 0,.int .i64 0,.int .i64 0,.bool false])/\i.size=4/\i.bytes=32:=by
 have h:((Tryz.prog).info? 81).map (fun i=>(i.zero,i.size,i.bytes))=some (some (.agg #[.int .i64 0,.int .i64 0,.int .i64 0,.bool false]),4,32):=by kernel_rfl
 cases hq:(Tryz.prog).info? 81 with
 |none=>simp [hq] at h
 |some i=>
  simp [hq] at h;exact ⟨i,rfl,h.1,h.2.1,h.2.2⟩
theorem b2z (W:World) (c0 c1 c2 c3:Value) (t:TypeId):∀ (j:Nat) (u:Value),[c0,c1,c2,c3][j]?=some u->(W.alloc (.cells #[c0,c1,c2,c3] t)).cell? ((⟨W.heap.size,0,none⟩:Addr).add j)=some u:=by
 intro j u h;rw [show (⟨W.heap.size,0,none⟩:Addr).add j=⟨W.heap.size,j,none⟩ from by unfold Addr.add;split <;> simp_all];rw [World.cell?_alloc_mark,<- h];simp
theorem ms4 {k:Nat} (h:k < 255):(256 - ((k:Int) + 1 + 1)).toNat < (256 - ((k:Int) + 1)).toNat:=by omega
theorem a5H (b:Int->Int) (hm:∀ p,b2e (b p)) (h0:b 0=0) (w:World):Calls Tryz.prog 151 #[.agg (bdC b).toArray] w (b2B (a0q b 255) w):=by
 obtain ⟨i0,hi0,hz0,hs0,hy0⟩:=b2C;have HI:=hid hi0;have HZ:=hid hz0;have HSZ:=hid hs0;have HY:=hid hy0;have HA:=hid (a5u b hm h0);have HP:=hid (b18 b);have HN:=hid (b2U b);have HM:=hid hm;have HB:=hid (b0e b);clear hi0 hz0 hs0 hy0 hm h0;have hbw:=Below.refl w.heap.size w;obtain ⟨B,hB⟩:∃ B,B=bdC b:=⟨_,rfl⟩;rw [<- hB] at HB |-;clear hB
 go_enter Tryz.func151,Tryz.ntmps151
 go_wp2_with (first|(with_reducible refine a01 1 ?_);refine a5W rfl 278 (.tmp 0) rfl (some 1) rfl (B) rfl w.heap.size w hbw hbw.size ?_;intro g1 wn1 hL1 hB1 hbn hkn hnn;skip;clear hbw hkn hnn;have hbw:=hbn;clear hbn)
 go_loopw [3,4] (fun vo vp wr=>∃ k:Nat,k<=255/\vp=.int .i64 ((k:Int) + 1)/\Below wn1.heap.size wn1 wr/\wr.ownsRow wn1.heap.size 81 4 vo (a0q b k).length (a36 (a0q b k))) (fun _ vp _=>(256 - intOf vp).toNat)
 case atStart=>exact ⟨0,by omega,rfl,Below.refl _ _,World.ownsRow_nil _ _ _ _⟩
 case round=>
  obtain ⟨k,hk,rfl,hb2,hown⟩:=hrel;by_cases hlt:k < 255
  ·have h1b:=hL1.grown hb2 hL1.lt;have e0:=(h1b.cell k).trans (HB.out k (by omega));have e1:=(h1b.cell (k + 1)).trans (HB.out (k + 1) (by omega));rw [show ((k + 1:Nat):Int)=(k:Int) + 1 by omega] at e1;have z1:=a20 h1b.lt;have HS:Hid (a0q b (k + 1)=a2D b (a0q b k) ((k:Int) + 1)):=hid rfl;by_cases c1:b ((k:Int) + 1)=0
   ·have c1':(b ((k:Int) + 1) == 0)=true:=by simpa using c1
    have HX:Hid (a0q b (k + 1)=a0q b k):=by refine hid ?_;rw [HS.out];unfold a2D;rw [xf0 c1]
    clear c1;generalize b ((k:Int) + 1)=bp at *;have HMS:=hid (ms4 hlt)
    go_wp2
    exact ⟨⟨k + 1,hlt,rfl,hb2,by rw [HX.out];exact hown⟩,HMS.out⟩
   have c1':(b ((k:Int) + 1) == 0)=false:=by simpa using c1
   have hmk:=HM.out ((k:Int) + 1);by_cases c2:b k=b ((k:Int) + 1)
   ·have c2':(b k == b ((k:Int) + 1))=true:=by simpa using c2
    obtain ⟨l,a,hla,hfin⟩:=(HA.out k).2.2 (by rw [c2];exact c1);have HX:Hid (a0q b (k + 1)=l++[{ a with n:=a.n + 1 }]):=by
     refine hid ?_;rw [HS.out];unfold a2D;rw [xf1 c1,xf0 (by rw [show (k:Int) + 1 - 1=k by omega];exact c2),hla,a2C]
    have hpg:=HP.out k a (by rw [hla];simp);have hfn:a.fin=a.pg + a.n:=rfl;have hw:wrap64 (a.n + 1)=a.n + 1:=by
     exact z9 _ (by omega) (by omega)
    have HF:=hid (b2V l a (a.n + 1));have HAT:=hid (b40 l a 1 (by decide));rw [hla,show (l++[a]).length=l.length + 1 by simp] at hown;have hlen:l.length<=255:=by have:=HN.out k;rw [hla] at this;simp at this;omega
    rcases hown.2 with ⟨_,h⟩|⟨g,cap,cur,rfl,hbg,hgg,hnc,hcm,hrest⟩
    ·omega
    have hglt:=(xb8.1 hgg).1;clear hgg hcm hrest cur;have HMS:=hid (ms4 hlt);clear c1 c2 hla hfin hpg hfn hmk;generalize b ((k:Int) + 1)=bp at *;generalize b k=bk at *;have t0:wr.cell? ⟨g,l.length * 4 + 1,none⟩=some (.int .i64 a.n):=(hown.cellAt (l.length * 4 + 1) (by omega)).trans HAT.out;have t1:=hown.frozenAt (l.length * 4 + 1);have zg:=a20 hglt
    go_wp2
    refine wp_region_quiet_below (by kernel_rfl) (by kernel_rfl) ?_
    repeat ((go_big_quiet_step ((fail))))
    refine wpQuiet_nil ?_;intro wq hw';obtain ⟨⟨dq,osq⟩,hw''⟩:=hw';have hbr:=t2 hw'';clear hw''
    first
     |(have hbn:=bt hbq hbr;clear hcq hfq hzq hbq hbr;have hbq:=hbn;clear hbn)
     |(have hbq:=hbr;clear hbr)
    obtain ⟨hcq,hfq,hzq⟩:=a0V hbq;have hown:=a76 hown hbq;have hb2:=bt hb2 hbq;have HS2:=hid (hown.stored (l.length * 4 + 1) (.int .i64 (a.n + 1)))
    go_wp2
    refine ⟨⟨k + 1,hlt,rfl,hb2.setCell hbg _,?_⟩,HMS.out⟩;rw [HX.out,HF.out]
    simpa using HS2.out.1
   ·have c2':(b k == b ((k:Int) + 1))=false:=by simpa using c2
    have HX:Hid (a0q b (k + 1)=a0q b k++[⟨(k:Int) + 1,1,(b ((k:Int) + 1) - 1) % 8 / 2,decide (8<=b ((k:Int) + 1) - 1)⟩]):=by
     refine hid ?_;rw [HS.out];unfold a2D;rw [xf1 c1,xf1 (by rw [show (k:Int) + 1 - 1=k by omega];exact c2)]
    have HMS:=hid (ms4 hlt);have hlen:=HN.out k;have hmk2:1<=b ((k:Int) + 1)/\b ((k:Int) + 1)<=16:=by unfold b2e at hmk;omega
    obtain ⟨m1,m2⟩:=hmk2;have hr1:(b ((k:Int) + 1) - 1).tmod 8=(b ((k:Int) + 1) - 1) % 8:=Int.tmod_eq_emod_of_nonneg (by omega);have hr2:((b ((k:Int) + 1) - 1) % 8).tdiv 2=(b ((k:Int) + 1) - 1) % 8 / 2:=xf2 (by omega);clear c1 c2 hmk;generalize a0q b k=U at *;generalize b ((k:Int) + 1)=bp at *;generalize b k=bk at *
    go_wp2
    refine wp_region_quiet_below (by kernel_rfl) (by kernel_rfl) ?_
    repeat ((go_big_quiet_step ((fail))))
    refine wpQuiet_nil ?_;intro wq hw';obtain ⟨⟨dq,osq⟩,hw''⟩:=hw';have hbr:=t2 hw'';clear hw''
    first
     |(have hbn:=bt hbq hbr;clear hcq hfq hzq hbq hbr;have hbq:=hbn;clear hbn)
     |(have hbq:=hbr;clear hbr)
    obtain ⟨hcq,hfq,hzq⟩:=a0V hbq;have hown:=a76 hown hbq;have hb2:=bt hb2 hbq
    go_wp2_with (first|(with_reducible refine a01 45 ?_);go_must (refine wpList_append_own_wide _ rfl (.tmp 36) (.tmp 44) 30 rfl wn1.heap.size 81 i0 (.agg #[.int .i64 0,.int .i64 0,.int .i64 0,.bool false]) 4 32 Tryz.underlying30 HI.out HZ.out HSZ.out HY.out rfl (by decide) u3 U.length (a36 U) rfl (hown.alloc _) ⟨wq.heap.size,0,none⟩ 1 1 [.int .i64 ((k:Int) + 1),.int .i64 1,.int .i64 ((bp - 1) % 8 / 2),.bool (decide (8<=bp - 1))] rfl rfl (b2z wq _ _ _ _ _) (by intro u hu;simp at hu;rcases hu with rfl|rfl|rfl|rfl <;> rfl) (by unfold maxLen;omega) (by omega) (by have:=hb2.size;simp;omega) ?_);intro v3 w3 hown3 hg3 hn3)
    have hb3:=(hb2.alloc hb2.size _).grown hg3 (by have:=hb2.size;simp;omega) (fun j hj=>(hown.lt j hj).1);refine ⟨⟨k + 1,hlt,rfl,hb3,?_⟩,HMS.out⟩;rw [HX.out,a3T,xe9];exact hown3
  ·go_wp2
   go_ret
   obtain rfl:k=255:=by omega
   exact ⟨_,rfl,b4s hown hbw.size,bt hbw hb2⟩
theorem b03 {A B:List Ar} (hl:A.length=B.length) (h:∀ (i:Nat) (a b:Ar),A[i]?=some a->B[i]?=some b->a=b):A=B:=by
 apply List.ext_getElem hl;intro i h1 h2;exact h i _ _ (by simp [h1]) (by simp [h2])
theorem b4A {A B:List Ar} {i:Nat} {a b:Ar} (ha:A[i]?=some a) (hb:B[i]?=some b) (h:a≠b):A≠B:=fun e=>by
 subst e;rw [ha] at hb;cases hb;exact h rfl
theorem b49 {A B:List Ar} (h:A.length≠B.length):A≠B:=fun e=>h (by rw [e])
theorem ms5 {i n:Nat} (h:i < n):n - ((i:Int) + 1).toNat < n - (i:Int).toNat:=by omega
theorem a96 (h n:Nat) (h1:h < n) (h2:n<=9223372036854775807):wrap64 ((h:Int) + 1)=(h:Int) + 1:=by unfold wrap64;omega
theorem b19 {A B:List Ar} {w:World} (b1 off1 cap1 b2 off2 cap2:Nat) (hb1:b1 < w.heap.size) (hb2:b2 < w.heap.size) (hc1:∀ i a,A[i]?=some a->CellsAr w b1 (off1 + i * 4) a) (hc2:∀ i a,B[i]?=some a->CellsAr w b2 (off2 + i * 4) a) (hl:A.length=B.length) (hmax:A.length<=9223372036854775807) :
  Calls Tryz.prog 61 #[.slice (some ⟨b1,off1,none⟩) A.length cap1,.slice (some ⟨b2,off2,none⟩) B.length cap2] w (RB (.bool (decide (A=B))) w):=by
 have HA:=hid hc1;have HB:=hid hc2;have HL:=hid hl;have HM:=hid hmax;rw [<- hl];clear hc1 hc2 hl hmax
 go_enter Tryz.func61,Tryz.ntmps61
 go_wp2
 go_loopw [5] (fun vi wr=>∃ i:Nat,i<=A.length/\vi=.int .i64 i/\Below w.heap.size w wr/\Hid (∀ (j:Nat) (a b:Ar),j < i->A[j]?=some a->B[j]?=some b->a=b)) (fun vi _=>A.length - (intOf vi).toNat)
 case atStart=>exact ⟨0,by omega,rfl,Below.refl _ _,fun j a b hj=>by omega⟩
 case round=>
  obtain ⟨i,hi,rfl,hb,HO⟩:=hrel;by_cases hlt:i < A.length
  ·obtain ⟨a,ha⟩:∃ a,A[i]?=some a:=⟨A[i],by simp [hlt]⟩;obtain ⟨b,hbb⟩:∃ b,B[i]?=some b:=⟨B[i]'(by have:=HL.out;omega),by simp⟩;obtain ⟨c0,c1,c2,c3⟩:=(HA.out i a ha).grown hb hb1;obtain ⟨d0,d1,d2,d3⟩:=(HB.out i b hbb).grown hb hb2;have z1:=a20 (xb7 hb1 hb.size);have z2:=a20 (xb7 hb2 hb.size);by_cases e:a=b
   ·have HX:=hid e;subst e;have hli:(i:Int) < A.length:=Int.ofNat_lt.2 hlt;have hws:=a96 i A.length hlt HM.out;have HMS:=hid (ms5 hlt)
    go_wp2
    refine wp_region_quiet_below (by kernel_rfl) (by kernel_rfl) ?_
    repeat (first|go_big_quiet_step ((fail))|quiet_step ((fail)))
    refine wpQuiet_nil ?_;intro wq hw';obtain ⟨⟨dq,osq⟩,hw''⟩:=hw';have hbr:=t2 hw'';clear hw''
    first
     |(have hbn:=bt hbq hbr;clear hcq hfq hzq hbq hbr;have hbq:=hbn;clear hbn)
     |(have hbq:=hbr;clear hbr)
    obtain ⟨hcq,hfq,hzq⟩:=a0V hbq
    go_wp2
    go_roundw
    case rel=>
     refine ⟨i + 1,hlt,by first|rfl|(rw [hws];rfl),bt hb hbq,fun j x y hj hx hy=>?_⟩;rcases xp8.1 hj with h|h
     ·exact HO.out j x y h hx hy
     ·subst h;rw [ha] at hx;rw [hbb] at hy;cases hx;cases hy;rfl
    case measure=>first|exact HMS.out|(rw [hws];exact HMS.out)
   ·have HX:=hid (b4A ha hbb e);by_cases e1:a.pg=b.pg
    ·by_cases e2:a.n=b.n
     ·by_cases e3:a.prot=b.prot
      ·have e4:¬ a.z=b.z:=fun h=>e (by cases a;cases b;simp_all);have f1:(a.pg == b.pg)=true:=by simpa using e1
       have f2:(a.n == b.n)=true:=by simpa using e2
       have f3:(a.prot == b.prot)=true:=by simpa using e3
       have f4:(a.z == b.z)=false:=by simpa using e4
       clear e e1 e2 e3 e4
       go_wp2
       refine wp_region_quiet_below (by kernel_rfl) (by kernel_rfl) ?_
       repeat (first|go_big_quiet_step ((fail))|quiet_step ((fail)))
       refine wpQuiet_nil ?_;intro wq hw';obtain ⟨⟨dq,osq⟩,hw''⟩:=hw';have hbr:=t2 hw'';clear hw''
       first
        |(have hbn:=bt hbq hbr;clear hcq hfq hzq hbq hbr;have hbq:=hbn;clear hbn)
        |(have hbq:=hbr;clear hbr)
       obtain ⟨hcq,hfq,hzq⟩:=a0V hbq
       go_wp2
       go_ret
       exact ⟨a0f (xj0 HX.out).symm,bt hb hbq⟩
      ·have f1:(a.pg == b.pg)=true:=by simpa using e1
       have f2:(a.n == b.n)=true:=by simpa using e2
       have f3:(a.prot == b.prot)=false:=by simpa using e3
       clear e e1 e2 e3
       go_wp2
       refine wp_region_quiet_below (by kernel_rfl) (by kernel_rfl) ?_
       repeat (first|go_big_quiet_step ((fail))|quiet_step ((fail)))
       refine wpQuiet_nil ?_;intro wq hw';obtain ⟨⟨dq,osq⟩,hw''⟩:=hw';have hbr:=t2 hw'';clear hw''
       first
        |(have hbn:=bt hbq hbr;clear hcq hfq hzq hbq hbr;have hbq:=hbn;clear hbn)
        |(have hbq:=hbr;clear hbr)
       obtain ⟨hcq,hfq,hzq⟩:=a0V hbq
       go_wp2
       go_ret
       exact ⟨a0f (xj0 HX.out).symm,bt hb hbq⟩
     ·have f1:(a.pg == b.pg)=true:=by simpa using e1
      have f2:(a.n == b.n)=false:=by simpa using e2
      clear e e1 e2
      go_wp2
      refine wp_region_quiet_below (by kernel_rfl) (by kernel_rfl) ?_
      repeat (first|go_big_quiet_step ((fail))|quiet_step ((fail)))
      refine wpQuiet_nil ?_;intro wq hw';obtain ⟨⟨dq,osq⟩,hw''⟩:=hw';have hbr:=t2 hw'';clear hw''
      first
       |(have hbn:=bt hbq hbr;clear hcq hfq hzq hbq hbr;have hbq:=hbn;clear hbn)
       |(have hbq:=hbr;clear hbr)
      obtain ⟨hcq,hfq,hzq⟩:=a0V hbq
      go_wp2
      go_ret
      exact ⟨a0f (xj0 HX.out).symm,bt hb hbq⟩
    ·have f1:(a.pg == b.pg)=false:=by simpa using e1
     clear e e1
     go_wp2
     refine wp_region_quiet_below (by kernel_rfl) (by kernel_rfl) ?_
     repeat (first|go_big_quiet_step ((fail))|quiet_step ((fail)))
     refine wpQuiet_nil ?_;intro wq hw';obtain ⟨⟨dq,osq⟩,hw''⟩:=hw';have hbr:=t2 hw'';clear hw''
     first
      |(have hbn:=bt hbq hbr;clear hcq hfq hzq hbq hbr;have hbq:=hbn;clear hbn)
      |(have hbq:=hbr;clear hbr)
     obtain ⟨hcq,hfq,hzq⟩:=a0V hbq
     go_wp2
     go_ret
     exact ⟨a0f (xj0 HX.out).symm,bt hb hbq⟩
  ·go_wp2
   go_ret
   obtain rfl:i=A.length:=by omega
   exact ⟨a0f (xj2 (b03 HL.out fun j x y hx hy=>HO.out j x y (xa7.1 hx).1 hx hy)).symm,hb⟩
def tab:Tab:=[
 (3,.sc (.int .i64) 1 (.int .i64 0)),
 (42,.st 5 [(0,1,false),(1,1,false),(2,1,false),(3,1,false),(4,1,false)] [.slice none 0 0,.slice none 0 0,.slice none 0 0,.slice none 0 0,.int .i64 0]),
 (30,.sl 81 4 32 true [.int .i64 0,.int .i64 0,.int .i64 0,.bool false]),
 (81,.st 4 [(0,1,false),(1,1,false),(2,1,false),(3,1,false)] [.int .i64 0,.int .i64 0,.int .i64 0,.bool false]),
 (91,.st 3 [(0,1,false),(1,1,false),(2,1,false)] [.int .i64 0,.int .i64 0,.int .i64 0]),
 (73,.sl 91 3 24 true [.int .i64 0,.int .i64 0,.int .i64 0]),
 (9,.sc .string 1 (.string ⟨#[]⟩)),
 (125,.sl 130 2 24 true [.int .i64 0,.string ⟨#[]⟩]),
 (68,.st 2 [(0,1,false),(1,1,false)] [.int .i64 0,.int .i64 0]),
 (130,.st 2 [(0,1,false),(1,1,false)] [.int .i64 0,.string ⟨#[]⟩]),
 (75,.st 3 [(0,1,false),(1,1,false),(2,1,false)] [.bool false,.slice none 0 0,.slice none 0 0]),
 (40,.sl 75 3 56 true [.bool false,.slice none 0 0,.slice none 0 0]),
 (38,.sl 89 4 32 true [.string ⟨#[]⟩,.int .i64 0,.bool false,.bool false]),
 (31,.sl 94 3 48 true [.int .i64 0,.string ⟨#[]⟩,.slice none 0 0]),
 (33,.st 3 [(0,1,false),(1,1,false),(2,1,false)] [.slice none 0 0,.slice none 0 0,.int .i64 0]),
 (94,.st 3 [(0,1,false),(1,1,false),(2,1,false)] [.int .i64 0,.string ⟨#[]⟩,.slice none 0 0]),
 (201,.st 5 [(0,1,false),(1,1,false),(2,1,false),(3,1,false),(4,1,false)] [.int .i64 0,.int .i64 0,.int .i64 0,.int .i64 0,.int .i64 0]),
 (89,.st 4 [(0,1,false),(1,1,false),(2,1,false),(3,1,false)] [.string ⟨#[]⟩,.int .i64 0,.bool false,.bool false]),
 (39,.sl 143 2 24 true [.string ⟨#[]⟩,.int .i64 0]),
 (121,.st 13 [(0,8,true),(8,1,false),(9,1,false),(10,1,false),(11,2,true)] [.int .i64 0,.int .i64 0,.int .i64 0,.int .i64 0,.int .i64 0,.int .i64 0,.int .i64 0,.int .i64 0,.int .i64 0,.int .i64 0,.int .i64 0,.int .i64 0,.int .i64 0]),
 (27,.st 6 [(0,1,false),(1,1,false),(2,1,false),(3,1,false),(4,1,false),(5,1,false)] [.string ⟨#[]⟩,.slice none 0 0,.slice none 0 0,.slice none 0 0,.slice none 0 0,.int .i64 0]),
 (51,.st 4 [(0,1,false),(1,1,false),(2,1,false),(3,1,false)] [.int .i64 0,.slice none 0 0,.slice none 0 0,.slice none 0 0]),
 (49,.sl 127 3 56 true [.bool false,.slice none 0 0,.slice none 0 0]),
 (169,.st 7 [(0,5,true),(5,1,false),(6,1,false)] [.slice none 0 0,.slice none 0 0,.slice none 0 0,.slice none 0 0,.int .i64 0,.int .i64 0,.slice none 0 0]),
 (197,.st 5 [(0,1,false),(1,1,false),(2,1,false),(3,1,false),(4,1,false)] [.int .i64 0,.int .i64 0,.string ⟨#[]⟩,.bool false,.bool false]),
 (43,.sl 121 13 104 true [.int .i64 0,.int .i64 0,.int .i64 0,.int .i64 0,.int .i64 0,.int .i64 0,.int .i64 0,.int .i64 0,.int .i64 0,.int .i64 0,.int .i64 0,.int .i64 0,.int .i64 0]),
 (127,.st 3 [(0,1,false),(1,1,false),(2,1,false)] [.bool false,.slice none 0 0,.slice none 0 0]),
 (46,.st 7 [(0,5,true),(5,1,false),(6,1,false)] [.slice none 0 0,.slice none 0 0,.slice none 0 0,.slice none 0 0,.int .i64 0,.slice none 0 0,.slice none 0 0]),
 (92,.sl 96 2 24 true [.int .i64 0,.string ⟨#[]⟩]),
 (4,.sc .bool 1 (.bool false)),
 (29,.sl 3 1 8 false [.int .i64 0]),
 (44,.sl 118 2 16 true [.int .i64 0,.int .i64 0]),
 (143,.st 2 [(0,1,false),(1,1,false)] [.string ⟨#[]⟩,.int .i64 0]),
 (119,.ar 8 8 1 false [.int .i64 0,.int .i64 0,.int .i64 0,.int .i64 0,.int .i64 0,.int .i64 0,.int .i64 0,.int .i64 0]),
 (161,.sc (.pointer 169) 1 (.pointer none)),
 (96,.st 2 [(0,1,false),(1,1,false)] [.int .i64 0,.string ⟨#[]⟩]),
 (183,.sl 5 1 1 false [.int .u8 0]),
 (23,.sl 197 5 40 true [.int .i64 0,.int .i64 0,.string ⟨#[]⟩,.bool false,.bool false]),
 (215,.st 3 [(0,1,false),(1,1,false),(2,1,false)] [.nilIface,.slice none 0 0,.slice none 0 0]),
 (265,.st 5 [(0,1,false),(1,1,false),(2,1,false),(3,1,false),(4,1,false)] [.int .i64 0,.int .i64 0,.int .i64 0,.int .i64 0,.int .i64 0]),
 (154,.sl 233 7 56 true [.int .i64 0,.int .i64 0,.int .i64 0,.int .i64 0,.int .i64 0,.int .i64 0,.bool false]),
 (22,.sl 9 1 16 false [.string ⟨#[]⟩]),
 (222,.st 2 [(0,1,false),(1,1,false)] [.int .i64 0,.slice none 0 0]),
 (112,.st 7 [(0,6,true),(6,1,false)] [.string ⟨#[]⟩,.slice none 0 0,.slice none 0 0,.slice none 0 0,.slice none 0 0,.int .i64 0,.int .i64 0]),
 (307,.st 3 [(0,1,false),(1,1,false),(2,1,false)] [.bool false,.bool false,.bool false]),
 (360,.sc (.func #[130,130] #[3] false) 1 (.nilFunc)),
 (28,.sl 27 6 120 true [.string ⟨#[]⟩,.slice none 0 0,.slice none 0 0,.slice none 0 0,.slice none 0 0,.int .i64 0]),
 (191,.st 3 [(0,1,false),(1,1,false),(2,1,false)] [.int .i64 0,.string ⟨#[]⟩,.int .i64 0]),
 (108,.st 4 [(0,1,false),(1,1,false),(2,1,false),(3,1,false)] [.map none,.map none,.slice none 0 0,.int .i64 0]),
 (106,.sl 112 7 128 true [.string ⟨#[]⟩,.slice none 0 0,.slice none 0 0,.slice none 0 0,.slice none 0 0,.int .i64 0,.int .i64 0]),
 (309,.sc (.map 3 307) 1 (.map none)),
 (252,.st 2 [(0,1,false),(1,1,false)] [.string ⟨#[]⟩,.int .i64 0]),
 (278,.ar 256 256 1 false [.int .i64 0,.int .i64 0,.int .i64 0,.int .i64 0,.int .i64 0,.int .i64 0,.int .i64 0,.int .i64 0,.int .i64 0,.int .i64 0,.int .i64 0,.int .i64 0,.int .i64 0,.int .i64 0,.int .i64 0,.int .i64 0,.int .i64 0,.int .i64 0,.int .i64 0,.int .i64 0,.int .i64 0,.int .i64 0,.int .i64 0,.int .i64 0,.int .i64 0,.int .i64 0,.int .i64 0,.int .i64 0,.int .i64 0,.int .i64 0,.int .i64 0,.int .i64 0,.int .i64 0,.int .i64 0,.int .i64 0,.int .i64 0,.int .i64 0,.int .i64 0,.int .i64 0,.int .i64 0,.int .i64 0,.int .i64 0,.int .i64 0,.int .i64 0,.int .i64 0,.int .i64 0,.int .i64 0,.int .i64 0,.int .i64 0,.int .i64 0,.int .i64 0,.int .i64 0,.int .i64 0,.int .i64 0,.int .i64 0,.int .i64 0,.int .i64 0,.int .i64 0,.int .i64 0,.int .i64 0,.int .i64 0,.int .i64 0,.int .i64 0,.int .i64 0,.int .i64 0,.int .i64 0,.int .i64 0,.int .i64 0,.int .i64 0,.int .i64 0,.int .i64 0,.int .i64 0,.int .i64 0,.int .i64 0,.int .i64 0,.int .i64 0,.int .i64 0,.int .i64 0,.int .i64 0,.int .i64 0,.int .i64 0,.int .i64 0,.int .i64 0,.int .i64 0,.int .i64 0,.int .i64 0,.int .i64 0,.int .i64 0,.int .i64 0,.int .i64 0,.int .i64 0,.int .i64 0,.int .i64 0,.int .i64 0,.int .i64 0,.int .i64 0,.int .i64 0,.int .i64 0,.int .i64 0,.int .i64 0,.int .i64 0,.int .i64 0,.int .i64 0,.int .i64 0,.int .i64 0,.int .i64 0,.int .i64 0,.int .i64 0,.int .i64 0,.int .i64 0,.int .i64 0,.int .i64 0,.int .i64 0,.int .i64 0,.int .i64 0,.int .i64 0,.int .i64 0,.int .i64 0,.int .i64 0,.int .i64 0,.int .i64 0,.int .i64 0,.int .i64 0,.int .i64 0,.int .i64 0,.int .i64 0,.int .i64 0,.int .i64 0,.int .i64 0,.int .i64 0,.int .i64 0,.int .i64 0,.int .i64 0,.int .i64 0,.int .i64 0,.int .i64 0,.int .i64 0,.int .i64 0,.int .i64 0,.int .i64 0,.int .i64 0,.int .i64 0,.int .i64 0,.int .i64 0,.int .i64 0,.int .i64 0,.int .i64 0,.int .i64 0,.int .i64 0,.int .i64 0,.int .i64 0,.int .i64 0,.int .i64 0,.int .i64 0,.int .i64 0,.int .i64 0,.int .i64 0,.int .i64 0,.int .i64 0,.int .i64 0,.int .i64 0,.int .i64 0,.int .i64 0,.int .i64 0,.int .i64 0,.int .i64 0,.int .i64 0,.int .i64 0,.int .i64 0,.int .i64 0,.int .i64 0,.int .i64 0,.int .i64 0,.int .i64 0,.int .i64 0,.int .i64 0,.int .i64 0,.int .i64 0,.int .i64 0,.int .i64 0,.int .i64 0,.int .i64 0,.int .i64 0,.int .i64 0,.int .i64 0,.int .i64 0,.int .i64 0,.int .i64 0,.int .i64 0,.int .i64 0,.int .i64 0,.int .i64 0,.int .i64 0,.int .i64 0,.int .i64 0,.int .i64 0,.int .i64 0,.int .i64 0,.int .i64 0,.int .i64 0,.int .i64 0,.int .i64 0,.int .i64 0,.int .i64 0,.int .i64 0,.int .i64 0,.int .i64 0,.int .i64 0,.int .i64 0,.int .i64 0,.int .i64 0,.int .i64 0,.int .i64 0,.int .i64 0,.int .i64 0,.int .i64 0,.int .i64 0,.int .i64 0,.int .i64 0,.int .i64 0,.int .i64 0,.int .i64 0,.int .i64 0,.int .i64 0,.int .i64 0,.int .i64 0,.int .i64 0,.int .i64 0,.int .i64 0,.int .i64 0,.int .i64 0,.int .i64 0,.int .i64 0,.int .i64 0,.int .i64 0,.int .i64 0,.int .i64 0,.int .i64 0,.int .i64 0,.int .i64 0,.int .i64 0,.int .i64 0,.int .i64 0,.int .i64 0,.int .i64 0,.int .i64 0,.int .i64 0,.int .i64 0,.int .i64 0,.int .i64 0,.int .i64 0,.int .i64 0,.int .i64 0,.int .i64 0,.int .i64 0,.int .i64 0]),
 (146,.sc (.pointer 42) 1 (.pointer none)),
 (5,.sc (.int .u8) 1 (.int .u8 0)),
 (24,.sl 252 2 24 true [.string ⟨#[]⟩,.int .i64 0]),
 (284,.sc (.int .u64) 1 (.int .u64 0)),
 (375,.sc (.int .u64) 1 (.int .u64 0)),
 (25,.sl 191 3 32 true [.int .i64 0,.string ⟨#[]⟩,.int .i64 0]),
 (209,.st 5 [(0,5,true)] [.slice none 0 0,.slice none 0 0,.slice none 0 0,.slice none 0 0,.int .i64 0]),
 (147,.sl 154 1 24 false [.slice none 0 0]),
 (149,.st 4 [(0,1,false),(1,1,false),(2,1,false),(3,1,false)] [.pointer none,.slice none 0 0,.slice none 0 0,.int .i64 0]),
 (118,.st 2 [(0,1,false),(1,1,false)] [.int .i64 0,.int .i64 0]),
 (233,.st 7 [(0,3,true),(3,4,true)] [.int .i64 0,.int .i64 0,.int .i64 0,.int .i64 0,.int .i64 0,.int .i64 0,.bool false]),
 (105,.sc (.map 9 3) 1 (.map none)),
 (145,.sc (.pointer 149) 1 (.pointer none)),
 (257,.sc (.int .u64) 1 (.int .u64 0)),
 (218,.sc (.pointer 222) 1 (.pointer none)),
 (379,.sc (.pointer 3) 1 (.pointer none)),
 (104,.sc (.map 9 27) 1 (.map none)),
 (132,.sc (.pointer 215) 1 (.pointer none)),
 (184,.sl 28 1 24 false [.slice none 0 0]),
 (207,.sc (.pointer 209) 1 (.pointer none)),
 (355,.sl 30 1 24 false [.slice none 0 0]),
 (348,.sc (.func #[30] #[30,34] false) 1 (.nilFunc)),
 (188,.sc (.map 3 199) 1 (.map none)),
 (103,.sc (.pointer 108) 1 (.pointer none)),
 (321,.sc (.func #[91] #[4] false) 1 (.nilFunc)),
 (34,.sc (.int .i64) 1 (.int .i64 0)),
 (186,.sl 110 1 8 false [.nilFunc]),
 (202,.sl 201 5 40 true [.int .i64 0,.int .i64 0,.int .i64 0,.int .i64 0,.int .i64 0]),
 (21,.sc (.int .i32) 1 (.int .i32 0)),
 (331,.sc (.int .u32) 1 (.int .u32 0)),
 (175,.sc (.pointer 75) 1 (.pointer none)),
 (287,.sc (.func #[21] #[4] false) 1 (.nilFunc)),
 (134,.sc (.func #[132] #[34] false) 1 (.nilFunc)),
 (152,.sc (.func #[75] #[4] false) 1 (.nilFunc)),
 (167,.sc (.func #[165,3,3] #[] false) 1 (.nilFunc)),
 (235,.sc (.func #[233] #[4] false) 1 (.nilFunc)),
 (245,.sc (.func #[91,3] #[3] false) 1 (.nilFunc)),
 (296,.sc (.pointer 121) 1 (.pointer none)),
 (362,.sc (.func #[130] #[4] false) 1 (.nilFunc)),
 (110,.sc (.func #[27] #[34] false) 1 (.nilFunc)),
 (114,.sc (.pointer 33) 1 (.pointer none)),
 (165,.sc (.pointer 89) 1 (.pointer none)),
 (243,.sc (.func #[81,3] #[3] false) 1 (.nilFunc)),
 (247,.sc (.func #[94,3] #[3] false) 1 (.nilFunc)),
 (276,.sc (.func #[130,3] #[3] false) 1 (.nilFunc)),
 (303,.sc (.func #[89] #[4] false) 1 (.nilFunc)),
 (319,.sc (.func #[143] #[4] false) 1 (.nilFunc))]
theorem a7:TabOk Tryz.prog tab:=by
 unfold tab
 repeat (first|exact TabOk.nil _|refine TabOk.cons (by kernel_rfl) (by rfl) ?_)
section
variable {P:Program} {n:Nat} {ds:List Deferred} {E:Fr} {w:World} {Q:Exit->Act->World->Prop} {ops:Array Oper} {rest:List Oper} {d:Nat} {dst:Option Nat} {ty:TypeId} {pos:String} {after:Array Edge} {F:Nat->Prop} {w0:World} {Γ:List Asr} {T:Tab}
theorem a0A (hS:St F w0 w Γ) (hT:TabOk P T) {t e sz eb i:Nat} {ag:Bool} {ez:List Value} {x y:Operand} {v u:Value} {rows news:List (List Value)} (ht:T.get t=some (.sl e sz eb ag ez)) (hx:E.ev x=some v) (hi:Γ[i]?=some (.row e sz v rows)) (hy:E.ev y=some u)
  (hn:Sl nF w sz u news) (hbig:(rows.length + news.length) * (eb + 1)<=140737488355328) :
  Gets P ⟨dst,.call { callee:=.builtin .append,args:=#[x,y],argTypes:=#[t,t] },ty,pos,after,none⟩ n ds E w (fun v' w'=>∃ p cap,v'=.slice p (rows.length + news.length) cap/\St F w0 w' (Γ.set i (.row e sz (.slice p (rows.length + news.length) cap) (rows++news)))):=by
 rcases hn with ⟨p,c,rfl,rfl⟩|⟨b,off,cap,rfl,h2,h3,h4⟩
 ·cases p with
  |none=>
   intro a ha K Q k;obtain ⟨ji,zv,hu,hinfo,_⟩:=hT.sl ht;obtain ⟨ho,hlen,hone⟩:=hS.at_ hi;have e1:Builtin.append_ #[t,t] ty #[v,.slice none 0 c]=Builtin.append_ #[t,t] ty #[v,.slice none 0 0]:=rfl;have hr:=run_append_owned_none (P:=P) w 0 t ty e ji sz hu hinfo v _ _ ho;have hex:(execOp a.eval ⟨dst,.call { callee:=.builtin .append,args:=#[x,y],argTypes:=#[t,t] },ty,pos,after,none⟩).run P w=.ok (.value v) w:=by
    simp [execOp,resolve,invoke,builtin,ha.ev hx,ha.ev hy,e1,hr,Result.andThen]
   unfold Oper.wp;rw [hex];obtain ⟨p,cap,hv⟩:=hS.rowSlice i hi;subst hv;refine k _ _ ⟨p,cap,rfl,?_⟩;rw [List.append_nil];exact hS.upd hi (World.grownBy.refl _ _) ⟨ho,hlen,hone⟩ (fun q hq=>xd6 hq)
  |some a0=>
   intro a ha K Q k;obtain ⟨ji,zv,hu,hinfo,_,hs,hby,hz,hzl,_,hsz,hs0⟩:=hT.sl ht;obtain ⟨ho,hlen,hone⟩:=hS.at_ hi;have hb1:rows.length * eb + rows.length<=140737488355328:=by rw [xa2,xg2,Nat.mul_succ] at hbig;exact hbig
   obtain ⟨v',w',hrun,hown,hg,_,hat⟩:=run_append_own_at (P:=P) w 0 t ty e ji zv sz eb hu hinfo hz hs hby (by rw [<- xh0,hzl,hsz]) (xg7 hs0) v rows.length rows.flatten ho a0 0 c [] (by simp) (fun j u hu=>by simp at hu) (by simp) (by unfold maxLen;omega) (by rw [xg2];omega) (xg4 _);have hex:(execOp a.eval ⟨dst,.call { callee:=.builtin .append,args:=#[x,y],argTypes:=#[t,t] },ty,pos,after,none⟩).run P w=.ok (.value v') w':=by
    simp [execOp,resolve,invoke,builtin,ha.ev hx,ha.ev hy,hrun,Result.andThen]
   unfold Oper.wp;rw [hex];rw [xg2,List.append_nil] at hown;have hown':(Asr.row e sz v' rows).holds w':=⟨hown,hlen,hone⟩;obtain ⟨p,cap,hv'⟩:∃ p cap,v'=.slice p rows.length cap:=by
    rcases hown.2 with ⟨rfl,h0⟩|⟨g,cap,cur,rfl,_⟩
    ·exact ⟨none,0,by rw [h0]⟩
    ·exact ⟨_,_,rfl⟩
   subst hv';refine k _ _ ⟨p,cap,rfl,?_⟩;rw [List.append_nil];refine hS.upd hi hg hown' fun q hq=>?_;rcases hat with h|h
   ·exact xd6 (h.symm.trans hq)
   ·have:some w.heap.size=some q:=h.symm.trans hq
    cases this
    exact xd3 (xd4 _)
 ·exact a0x hS hT ht hx hi hy h4 rfl hbig
theorem a06 (hS:St F w0 w Γ) (hT:TabOk P T) {t e sz eb:Nat} (i:Nat) {ag:Bool} {ez:List Value} {x y:Operand} {v u:Value} {rows news:List (List Value)} (ht:T.get t=some (.sl e sz eb ag ez)) (hx:E.ev x=some v) (hi:Γ[i]?=some (.row e sz v rows)) (hy:E.ev y=some u)
  (hn:Sl nF w sz u news) (hbig:(rows.length + news.length) * (eb + 1)<=140737488355328) (hd:Nat.blt d n=true) (k:∀ p cap w',St F w0 w' (Γ.set i (.row e sz (.slice p (rows.length + news.length) cap) (rows++news)))->WL P ops Q rest n ds ((d,.slice p (rows.length + news.length) cap)::E) w'):WL P ops Q (⟨some d,.call { callee:=.builtin .append,args:=#[x,y],argTypes:=#[t,t] },ty,pos,after,none⟩::rest) n ds E w :=
 a09 hd (a0A hS hT ht hx hi hy hn hbig) (by rintro _ w' ⟨p,cap,rfl,h⟩;exact k p cap w' h)
theorem b6p {t yt:TypeId} {x y:Operand} {m k:Int} (hx:E.ev x=some (.int .i64 m)) (hy:E.ev y=some (.int .i64 k)) (h3:0 < k):∀ a,Has n ds a E->∀ dst,a05 P ⟨dst,.binOp .rem t x y yt,ty,pos,after,none⟩ a (.int .i64 (m.tmod k)):=fun a ha _ w=>by
 have hk:¬ k=0:=by omega
 simp [execOp,ha.ev hx,ha.ev hy,eqGuard,binOp,Op.intDiv,hk]
theorem a5m {t yt:TypeId} {x y:Operand} {m k:Int} (hx:E.ev x=some (.int .i64 m)) (hy:E.ev y=some (.int .i64 k)) (h3:0 < k) (hd:Nat.blt d n=true) (k':WL P ops Q rest n ds ((d,.int .i64 (m.tmod k))::E) w):WL P ops Q (⟨some d,.binOp .rem t x y yt,ty,pos,after,none⟩::rest) n ds E w:=a0v (fun a ha=>b6p hx hy h3 a ha _) hd k'
end
section
variable {P:Program} {n:Nat} {ds:List Deferred} {E:Fr} {w:World} {Q:Exit->Act->World->Prop} {ops:Array Oper} {S:World->Prop} {fuel:Nat} {li:Array Bool} {d:Nat} {op:Op} {ty:TypeId} {pos:String} {after:Array Edge} {F:Nat->Prop} {w0:World} {Γ:List Asr} {T:Tab}
def WA (P:Program) (ops:Array Oper) (Q:Exit->Act->World->Prop) (S:World->Prop) (fuel:Nat) (li:Array Bool) (n:Nat) (ds:List Deferred) (E:Fr) (w:World):Prop:=∀ a,Has n ds a E->wpAnyH P .any ops Q S fuel li a w
def WO (P:Program) (ops:Array Oper) (Q:Exit->Act->World->Prop) (S:World->Prop) (fuel:Nat) (li:Array Bool) (n:Nat) (ds:List Deferred) (E:Fr) (w:World) (i:Nat):Prop:=∀ a,Has n ds a E->wpOp P ops Q i (fun a' w'=>S w'/\wpAnyH P .any ops Q S fuel (li.setIfInBounds i true) a' w') a w
theorem a4h (S:World->Prop) {id:Nat} {l:List Oper} (m:Nat) (hl:l.length=m) (hS:St F w0 w Γ) (hm:P.follows .mixedOrders=true) (h:∀ w1,St F w0 w1 Γ->WA P l.toArray Q S m (Array.replicate m false) n ds E w1):WC P (.region id l.toArray true) Q n ds E w:=fun a ha=>by
 subst hl;exact wp_region_held (S:=S) hm (h { w with drawn:=w.drawn + 1 } (hS.grow ⟨rfl,rfl,rfl,xd4 _,fun _ _ _=>rfl⟩) a ha)
theorem v8 (hr:Region.ready .any ops li=[]) (h:WQ Q .normal n ds E w):WA P ops Q S fuel li n ds E w:=fun a ha=>wpAnyH_done hr (h a ha) fuel
theorem a1g {i:Nat} (_C:Nn i) {v:Value} (hT:TabOk P T) (hi:ops[i]?=some ⟨some d,op,ty,pos,after,none⟩) (hs:Region.noSelect ops=true) (hf:Region.free .any ops li i=true) (hr:(Region.ready .any ops li).contains i=true)
  (hQ:∀ c (a:Act) w,Q (.panic c) (a.put (some d) v) w->Q (.panic c) a w) (hS:S w) (hv:a0i T E op=some v) (hd:Nat.blt d n=true) (k:WA P ops Q S fuel (li.setIfInBounds i true) n ds ((d,v)::E) w):WA P ops Q S (fuel + 1) li n ds E w:=fun a ha=>
 wpAnyH_take hi hs hf hr hQ (xd6 ⟨rfl,fun w _=>l6 hT ha hv w⟩) hS (k _ (ha.put d v hd))
theorem a8n {i:Nat} (_C:Nn i) {t:TypeId} {x:Operand} {p:Addr} {v:Value} (hi:ops[i]?=some ⟨some d,.load t x,ty,pos,after,none⟩) (hs:Region.noSelect ops=true) (hf:Region.free .any ops li i=true) (hr:(Region.ready .any ops li).contains i=true)
  (hQ:∀ c (a:Act) w,Q (.panic c) (a.put (some d) v) w->Q (.panic c) a w) (hS:S w) (hx:E.ev x=some (.pointer (some p))) (hl:∀ w,S w->Ld P t p v w) (hd:Nat.blt d n=true) (k:WA P ops Q S fuel (li.setIfInBounds i true) n ds ((d,v)::E) w):WA P ops Q S (fuel + 1) li n ds E w:=fun a ha=>
 wpAnyH_take hi hs hf hr hQ (xd6 ⟨rfl,fun w hw=>by
  have h:=hl w hw;unfold Ld at h;simp only [execOp,ha.ev hx,Instr.loadAt,Instr.sureAddr,Sem.run_bind,Sem.run_pure,Result.andThen_ok,h]⟩) hS (k _ (ha.put d v hd))
theorem l4 {i:Nat} (hr:Region.ready .any ops li=[i]) (h:WO P ops Q S fuel li n ds E w i):WA P ops Q S (fuel + 1) li n ds E w:=fun a ha=>
 wpAnyH_all hr (by simp) (fun j hj=>by
  have:j=i:=by simpa using hj
  subst this;exact h a ha)
theorem a2x {i j:Nat} (hr:Region.ready .any ops li=[i,j]) (h1:WO P ops Q S fuel li n ds E w i) (h2:WO P ops Q S fuel li n ds E w j):WA P ops Q S (fuel + 1) li n ds E w:=fun a ha=>
 wpAnyH_all hr (by simp) (fun k hk=>by
  have:k=i\/k=j:=by simpa using hk
  rcases this with rfl|rfl
  ·exact h1 a ha
  ·exact h2 a ha)
theorem j5 {i:Nat} {Φ:Value->World->Prop} (hi:ops[i]?=some ⟨some d,op,ty,pos,after,none⟩) (h:Gets P ⟨some d,op,ty,pos,after,none⟩ n ds E w Φ) (hd:Nat.blt d n=true) (k:∀ v w',Φ v w'->S w'/\WA P ops Q S fuel (li.setIfInBounds i true) n ds ((d,v)::E) w'):WO P ops Q S fuel li n ds E w i:=fun a ha=>by
 unfold wpOp;simp only [hi];rw [xf0 (show Region.wanted _ _=true from rfl)];exact xd6 (h a ha _ _ fun v w' hv=>⟨(k v w' hv).1,(k v w' hv).2 _ (ha.put d v hd)⟩)
theorem p8 {i:Nat} {Φ:Value->World->Prop} (hi:ops[i]?=some ⟨none,op,ty,pos,after,none⟩) (h:Gets P ⟨none,op,ty,pos,after,none⟩ n ds E w Φ) (k:∀ v w',Φ v w'->S w'/\WA P ops Q S fuel (li.setIfInBounds i true) n ds E w'):WO P ops Q S fuel li n ds E w i:=fun a ha=>by
 unfold wpOp;simp only [hi];rw [xf0 (show Region.wanted _ _=true from rfl)];exact xd6 (h a ha _ _ fun v w' hv=>⟨(k v w' hv).1,(k v w' hv).2 _ ha⟩)
end
def RP (c:List PanicEntry) (Φ:Value->World->Prop) (Ψ:World->Prop) (e:Ending) (w':World):Prop:=(∃ v,e=.returned v/\Φ v w')\/(e=.panicked c/\Ψ w')
structure FnP (P:Program) (f:FuncId) (args:List Value) (w:World) (c:List PanicEntry) (Φ:Value->World->Prop) (Ψ:World->Prop):Prop where
 ok:∃ fn,a3D P f fn
 calls:Calls P f args.toArray w (RP c Φ Ψ)
section
variable {P:Program} {n:Nat} {ds:List Deferred} {E:Fr} {w:World} {Q:Exit->Act->World->Prop} {ops:Array Oper} {rest:List Oper} {d:Nat} {dst:Option Nat} {op:Op} {ty:TypeId} {pos:String} {after:Array Edge} {T:Tab} {c:List PanicEntry}
theorem FnP.mono {f:FuncId} {args:List Value} {Φ Φ':Value->World->Prop} {Ψ Ψ':World->Prop} (h:FnP P f args w c Φ Ψ) (h1:∀ v w',Φ v w'->Φ' v w') (h2:∀ w',Ψ w'->Ψ' w'):FnP P f args w c Φ' Ψ' :=
 ⟨h.ok,h.calls.mono fun _ _ h=>by
  rcases h with ⟨v,e,hv⟩|⟨e,hw⟩
  ·exact xd6 ⟨v,e,h1 v _ hv⟩
  ·exact xd3 ⟨e,h2 _ hw⟩⟩
end
section
variable {P:Program} {n:Nat} {E:Fr} {w:World} {c:List PanicEntry} {fn:Func} {Φ:Value->World->Prop} {Ψ:World->Prop} {v v1 v2:Value}
end
section
variable {P:Program} {n:Nat} {ds:List Deferred} {E:Fr} {w:World} {Q:Exit->Act->World->Prop} {ops:Array Oper} {rest:List Oper} {d:Nat} {dst:Option Nat} {op:Op} {ty:TypeId} {pos:String} {after:Array Edge} {T:Tab}
theorem a83 (l:List UInt8) (a b:Nat):(⟨l.toArray⟩:ByteArray).extract a b=⟨((l.drop a).take (b - a)).toArray⟩:=ByteArray.extract_mk l a b
end
section
variable {P:Program} {n:Nat} {E:Fr} {w:World} {fn:Func} {Φ:Value->World->Prop}
end
section
variable {P:Program} {ops:Array Oper} {Q:Exit->Act->World->Prop} {S:World->Prop} {q:Nat}
def a3A (P:Program) (ops:Array Oper) (Q:Exit->Act->World->Prop) (S:World->Prop) (q:Nat):Nat->Array Bool->Act->World->Prop
 |0,li,a,w=>Region.ready .any ops li=[]/\Q .normal a w
 |fuel + 1,li,a,w=>(Region.ready .any ops li=[]->Q .normal a w)/\∀ i ∈ Region.ready .any ops li,wpOp P ops Q i (fun a' w'=>(i=q\/li.getD q false=true\/S w')/\a3A P ops Q S q fuel (li.setIfInBounds i true) a' w') a w
theorem a9f:∀ (fuel:Nat) (li:Array Bool) (a:Act) (w:World),a3A P ops Q S q fuel li a w->wpAny P .any ops Q fuel li a w
 |0,_,_,_,h=>h
 |fuel + 1,_,_,_,h=>⟨h.1,fun i hi=>wpOp_mono (fun a' w' h'=>a9f fuel _ a' w' h'.2) (h.2 i hi)⟩
theorem b0M {i:Nat} {oi oq:Oper} {v:Value} (hi:ops[i]?=some oi) (hsel:∀ (j:Nat) (o:Oper) cs b,ops[j]?=some o->o.op≠.select cs b)
  (hQ:∀ c a w,Q (.panic c) (a.put oi.dst v) w->Q (.panic c) a w) (hoq:ops[q]?=some oq) (hq:∃ e ∈ oq.after,Region.binds .any e=true/\e.on=i) (hqi:q≠i) :
  ∀ (fuel:Nat) (li:Array Bool) (a:Act) (w:World),
   (∀ j oj,ops[j]?=some oj->j≠i->li.getD j true=false->(∀ e ∈ oj.after,Region.binds .any e=true->e.on≠i)->oi.apart ops oj=true) ->
   i ∈ Region.ready .any ops li->li.getD q false=false->YieldsIf P ops S oi v a->S w ->
   a3A P ops Q S q fuel (li.setIfInBounds i true) (a.put oi.dst v) w->a3A P ops Q S q (fuel + 1) li a w:=by
 intro fuel;have step:∀ (li:Array Bool) (j:Nat),i ∈ Region.ready .any ops li->j ∈ Region.ready .any ops li->∀ oj,ops[j]?=some oj->∀ e ∈ oj.after,Region.binds .any e=true->e.on≠i:=by
  intro li j hr hj oj hoj e he hb heq;obtain ⟨_,o,ho,hall⟩:=mem_ready.1 hj;rw [hoj] at ho
  cases ho
  have h1:=hall e he hb;have h0:=(mem_ready.1 hr).1;rw [heq] at h1;rcases xo8 i li.size with h'|h'
  ·simp [h'] at h0 h1;rw [h0] at h1;cases h1
  ·simp [xo9 h'] at h1
 have notq:∀ (li:Array Bool) (j:Nat),i ∈ Region.ready .any ops li->j ∈ Region.ready .any ops li->j≠q:=by
  rintro li j hr hj rfl;obtain ⟨e,he,hb,heq⟩:=hq;exact step li _ hr hj oq hoq e he hb heq
 induction fuel with
 |zero=>
  intro li a w _ hr hnq hy hS H;refine ⟨fun h=>(by rw [h] at hr;cases hr),fun j hj=>?_⟩;by_cases hji:j=i
  ·subst hji;exact hy.wpOp hi hS ⟨xd3 (xd3 hS),H⟩
  ·have:=ready_mono hj hji;rw [H.1] at this
   cases this
 |succ fuel ih=>
  intro li a w hfree hr hnq hy hS H;refine ⟨fun h=>(by rw [h] at hr;cases hr),fun j hj=>?_⟩;by_cases hji:j=i
  ·subst hji;exact hy.wpOp hi hS ⟨xd3 (xd3 hS),H⟩
  ·have hjq:=notq li j hr hj;have h1:=H.2 j (ready_mono hj hji);obtain ⟨hjun,oj,hoj,_⟩:=mem_ready.1 hj;have h2:=wpOp_putIf hoj (hfree j oj hoj hji hjun (step li j hr hj oj hoj)) (fun cs b=>hsel i oi cs b hi) (fun cs b=>hsel j oj cs b hoj) hQ hy h1;have hfree':∀ k ok,ops[k]?=some ok->k≠i->(li.setIfInBounds j true).getD k true=false ->
     (∀ e ∈ ok.after,Region.binds .any e=true->e.on≠i)->oi.apart ops ok=true:=fun k ok hk hki hun hno=>by
    refine hfree k ok hk hki ?_ hno;by_cases hjk:j=k
    ·subst hjk;exact hjun
    ·rw [getD_set_ne true hjk] at hun;exact hun
   have hnq':(li.setIfInBounds j true).getD q false=false:=by rw [getD_set_ne false hjq];exact hnq
   have hnq2:(li.setIfInBounds i true).getD q false=false:=by rw [getD_set_ne false (Ne.symm hqi)];exact hnq
   refine wpOp_mono (fun a' w' h3=>?_) h2;have hS':S w':=by
    rcases h3.2.1 with h|h|h
    ·exact (hjq h).elim
    ·rw [hnq2] at h;cases h
    ·exact h
   refine ⟨xd3 (xd3 hS'),ih (li.setIfInBounds j true) a' w' hfree' (ready_mono hr (Ne.symm hji)) hnq' h3.1 hS' ?_⟩;rw [xb0 _ _ hji];exact h3.2.2
theorem a7B {i:Nat} {oi:Oper} {v:Value} (hi:ops[i]?=some oi) (hsel:∀ (j:Nat) (o:Oper) cs b,ops[j]?=some o->o.op≠.select cs b)
  (hQ:∀ c a w,Q (.panic c) (a.put oi.dst v) w->Q (.panic c) a w) (hqi:q≠i) :
  ∀ (fuel:Nat) (li:Array Bool) (a:Act) (w:World),
   (∀ j oj,ops[j]?=some oj->j≠i->li.getD j true=false->(∀ e ∈ oj.after,Region.binds .any e=true->e.on≠i)->oi.apart ops oj=true) ->
   i ∈ Region.ready .any ops li->(li.getD q false=true\/S w)->YieldsIf P ops (fun _=>True) oi v a ->
   a3A P ops Q S q fuel (li.setIfInBounds i true) (a.put oi.dst v) w->a3A P ops Q S q (fuel + 1) li a w:=by
 intro fuel;have step:∀ (li:Array Bool) (j:Nat),i ∈ Region.ready .any ops li->j ∈ Region.ready .any ops li->∀ oj,ops[j]?=some oj->∀ e ∈ oj.after,Region.binds .any e=true->e.on≠i:=by
  intro li j hr hj oj hoj e he hb heq;obtain ⟨_,o,ho,hall⟩:=mem_ready.1 hj;rw [hoj] at ho
  cases ho
  have h1:=hall e he hb;have h0:=(mem_ready.1 hr).1;rw [heq] at h1;rcases xo8 i li.size with h'|h'
  ·simp [h'] at h0 h1;rw [h0] at h1;cases h1
  ·simp [xo9 h'] at h1
 induction fuel with
 |zero=>
  intro li a w _ hr hS hy H;refine ⟨fun h=>(by rw [h] at hr;cases hr),fun j hj=>?_⟩;by_cases hji:j=i
  ·subst hji;exact hy.wpOp hi trivial ⟨xd3 hS,H⟩
  ·have:=ready_mono hj hji;rw [H.1] at this
   cases this
 |succ fuel ih=>
  intro li a w hfree hr hS hy H;refine ⟨fun h=>(by rw [h] at hr;cases hr),fun j hj=>?_⟩;by_cases hji:j=i
  ·subst hji;exact hy.wpOp hi trivial ⟨xd3 hS,H⟩
  ·have h1:=H.2 j (ready_mono hj hji);obtain ⟨hjun,oj,hoj,_⟩:=mem_ready.1 hj;have h2:=wpOp_putIf hoj (hfree j oj hoj hji hjun (step li j hr hj oj hoj)) (fun cs b=>hsel i oi cs b hi) (fun cs b=>hsel j oj cs b hoj) hQ hy h1;have hfree':∀ k ok,ops[k]?=some ok->k≠i->(li.setIfInBounds j true).getD k true=false ->
     (∀ e ∈ ok.after,Region.binds .any e=true->e.on≠i)->oi.apart ops ok=true:=fun k ok hk hki hun hno=>by
    refine hfree k ok hk hki ?_ hno;by_cases hjk:j=k
    ·subst hjk;exact hjun
    ·rw [getD_set_ne true hjk] at hun;exact hun
   refine wpOp_mono (fun a' w' h3=>?_) h2;have hS':j=q\/li.getD q false=true\/S w':=by
    rcases h3.2.1 with h|h|h
    ·exact xd6 h
    ·rw [getD_set_ne false (Ne.symm hqi)] at h;exact xd3 (xd6 h)
    ·exact xd3 (xd3 h)
   have hS2:(li.setIfInBounds j true).getD q false=true\/S w':=by
    rcases hS' with h|h|h
    ·left;subst h;have hjl:j < li.size:=by
      rcases xo8 j li.size with h'|h'
      ·exact h'
      ·simp [xo9 h'] at hjun
     simp [hjl]
    ·exact xd6 (getD_set_true h)
    ·exact xd3 h
   refine ⟨hS',ih (li.setIfInBounds j true) a' w' hfree' (ready_mono hr (Ne.symm hji)) hS2 h3.1 ?_⟩;rw [xb0 _ _ hji];exact h3.2.2
end
section
variable {P:Program} {n:Nat} {ds:List Deferred} {E:Fr} {w:World} {Q:Exit->Act->World->Prop} {ops:Array Oper} {S:World->Prop} {q fuel:Nat} {li:Array Bool} {d:Nat} {op:Op} {ty:TypeId} {pos:String} {after:Array Edge} {F:Nat->Prop} {w0:World} {Γ:List Asr} {T:Tab} {c:List PanicEntry}
def WT (P:Program) (ops:Array Oper) (Q:Exit->Act->World->Prop) (S:World->Prop) (q fuel:Nat) (li:Array Bool) (n:Nat) (ds:List Deferred) (E:Fr) (w:World):Prop:=∀ a,Has n ds a E->a3A P ops Q S q fuel li a w
def WP (P:Program) (ops:Array Oper) (Q:Exit->Act->World->Prop) (S:World->Prop) (q fuel:Nat) (li:Array Bool) (n:Nat) (ds:List Deferred) (E:Fr) (w:World) (i:Nat):Prop:=∀ a,Has n ds a E->wpOp P ops Q i (fun a' w'=>(i=q\/li.getD q false=true\/S w')/\a3A P ops Q S q fuel (li.setIfInBounds i true) a' w') a w
theorem b6o (S:World->Prop) (q:Nat) {id:Nat} {l:List Oper} (m:Nat) (hl:l.length=m) (hS:St F w0 w Γ) (hm:P.follows .mixedOrders=true) (h:∀ w1,St F w0 w1 Γ->WT P l.toArray Q S q m (Array.replicate m false) n ds E w1):WC P (.region id l.toArray true) Q n ds E w:=fun a ha=>by
 subst hl;exact wp_region_any hm (a9f _ _ _ _ (h { w with drawn:=w.drawn + 1 } (hS.grow ⟨rfl,rfl,rfl,xd4 _,fun _ _ _=>rfl⟩) a ha))
def a1w (ops:Array Oper) (q i:Nat):Bool:=match ops[q]? with
 |some o=>o.after.toList.any (fun e=>Region.binds .any e && Nat.beq e.on i)
 |none=>false
theorem a9G {q i:Nat} (h:a1w ops q i=true):∃ oq,ops[q]?=some oq/\∃ e ∈ oq.after,Region.binds .any e=true/\e.on=i:=by
 unfold a1w at h
 split at h
 ·rename_i o ho;obtain ⟨e,he,h2⟩:=xn2.1 h;simp only [xb2] at h2;exact ⟨o,ho,e,by simpa using he,h2.1,xb9 h2.2⟩
 ·cases h
theorem b5j {i:Nat} (_C:Nn i) {t:TypeId} {x:Operand} {p:Addr} {v:Value} (hi:ops[i]?=some ⟨some d,.load t x,ty,pos,after,none⟩) (hs:Region.noSelect ops=true) (hf:Region.free .any ops li i=true) (hr:(Region.ready .any ops li).contains i=true) (hw:a1w ops q i=true) (hqi:Nat.beq q i=false) (hnq:li.getD q false=false)
  (hQ:∀ c (a:Act) w,Q (.panic c) (a.put (some d) v) w->Q (.panic c) a w) (hS:S w) (hx:E.ev x=some (.pointer (some p))) (hl:∀ w,S w->Ld P t p v w) (hd:Nat.blt d n=true) (k:WT P ops Q S q fuel (li.setIfInBounds i true) n ds ((d,v)::E) w):WT P ops Q S q (fuel + 1) li n ds E w:=fun a ha=>by
 obtain ⟨oq,hoq,hq⟩:=a9G hw;refine b0M hi (Region.noSelect_spec hs) hQ hoq hq (fun e=>by subst e;rw [xo5] at hqi;cases hqi) fuel li a w (Region.free_spec hi hf) (by simpa using hr) hnq (xd6 ⟨rfl,fun w hw=>?_⟩) hS (k _ (ha.put d v hd));have h:=hl w hw;unfold Ld at h;simp only [execOp,ha.ev hx,Instr.loadAt,Instr.sureAddr,Sem.run_bind,Sem.run_pure,Result.andThen_ok,h]
theorem b6X {i:Nat} (_C:Nn i) {v:Value} (hT:TabOk P T) (hi:ops[i]?=some ⟨some d,op,ty,pos,after,none⟩) (hs:Region.noSelect ops=true) (hf:Region.free .any ops li i=true) (hr:(Region.ready .any ops li).contains i=true) (hqi:Nat.beq q i=false)
  (hQ:∀ c (a:Act) w,Q (.panic c) (a.put (some d) v) w->Q (.panic c) a w) (hS:li.getD q false=true\/S w) (hv:a0i T E op=some v) (hd:Nat.blt d n=true) (k:WT P ops Q S q fuel (li.setIfInBounds i true) n ds ((d,v)::E) w):WT P ops Q S q (fuel + 1) li n ds E w:=fun a ha=>
 a7B hi (Region.noSelect_spec hs) hQ (fun e=>by subst e;rw [xo5] at hqi;cases hqi) fuel li a w (Region.free_spec hi hf) (by simpa using hr) hS (xd6 ⟨rfl,fun w _=>l6 hT ha hv w⟩) (k _ (ha.put d v hd))
theorem q9 {i:Nat} (hr:Region.ready .any ops li=[i]) (h:WP P ops Q S q fuel li n ds E w i):WT P ops Q S q (fuel + 1) li n ds E w:=fun a ha=>
 ⟨fun h0=>(by rw [hr] at h0;cases h0),fun j hj=>by
  rw [hr] at hj;have:j=i:=by simpa using hj
  subst this;exact h a ha⟩
theorem a73 {i j:Nat} (hr:Region.ready .any ops li=[i,j]) (h1:WP P ops Q S q fuel li n ds E w i) (h2:WP P ops Q S q fuel li n ds E w j):WT P ops Q S q (fuel + 1) li n ds E w:=fun a ha=>
 ⟨fun h0=>(by rw [hr] at h0;cases h0),fun k hk=>by
  rw [hr] at hk;have:k=i\/k=j:=by simpa using hk
  rcases this with rfl|rfl
  ·exact h1 a ha
  ·exact h2 a ha⟩
theorem a1h (hr:Region.ready .any ops li=[]) (h:WQ Q .normal n ds E w):WT P ops Q S q fuel li n ds E w:=fun a ha=>by
 cases fuel with
 |zero=>exact ⟨hr,h a ha⟩
 |succ f=>exact ⟨fun _=>h a ha,by rw [hr];simp⟩
theorem m9 {i:Nat} {Φ:Value->World->Prop} (hi:ops[i]?=some ⟨some d,op,ty,pos,after,none⟩) (h:Gets P ⟨some d,op,ty,pos,after,none⟩ n ds E w Φ) (hd:Nat.blt d n=true) (k:∀ v w',Φ v w'->(i=q\/li.getD q false=true\/S w')/\WT P ops Q S q fuel (li.setIfInBounds i true) n ds ((d,v)::E) w'):WP P ops Q S q fuel li n ds E w i:=fun a ha=>by
 unfold wpOp;simp only [hi];rw [xf0 (show Region.wanted _ _=true from rfl)];exact xd6 (h a ha _ _ fun v w' hv=>⟨(k v w' hv).1,(k v w' hv).2 _ (ha.put d v hd)⟩)
theorem a1e {i:Nat} {Φ:Value->World->Prop} (hi:ops[i]?=some ⟨none,op,ty,pos,after,none⟩) (h:Gets P ⟨none,op,ty,pos,after,none⟩ n ds E w Φ) (k:∀ v w',Φ v w'->(i=q\/li.getD q false=true\/S w')/\WT P ops Q S q fuel (li.setIfInBounds i true) n ds E w'):WP P ops Q S q fuel li n ds E w i:=fun a ha=>by
 unfold wpOp;simp only [hi];rw [xf0 (show Region.wanted _ _=true from rfl)];exact xd6 (h a ha _ _ fun v w' hv=>⟨(k v w' hv).1,(k v w' hv).2 _ ha⟩)
end
inductive Dn:Prop->Prop->Prop where
 |a {P:Program} {n:Nat} {ds:List Deferred} {E:Fr} {w:World} {Q:Exit->Act->World->Prop} {x y:Code}:Dn (WC P (.seq x y) Q n ds E w) (WC P x (Exit.then (y.wp P Q) Q) n ds E w)
 |b {P:Program} {n:Nat} {ds:List Deferred} {E:Fr} {w:World} {Q:Exit->Act->World->Prop} {i:Nat} {l:List Oper}:Dn (WC P (.region i l.toArray false) Q n ds E w) (WL P l.toArray Q l n ds E w)
 |c {P:Program} {n:Nat} {ds:List Deferred} {E:Fr} {w:World} {Q:Exit->Act->World->Prop} {ops:Array Oper}:Dn (WL P ops Q [] n ds E w) (WQ Q .normal n ds E w)
 |d {P:Program} {n:Nat} {ds:List Deferred} {E:Fr} {w:World} {Q:Exit->Act->World->Prop} {y:Code} {Q2:Exit->Act->World->Prop}:Dn (WQ (Exit.then (y.wp P Q2) Q) .normal n ds E w) (WC P y Q2 n ds E w)
 |e {P:Program} {n:Nat} {ds:List Deferred} {E:Fr} {w:World} {Q:Exit->Act->World->Prop}:Dn (WC P .skip Q n ds E w) (WQ Q .normal n ds E w)
 |f {P:Program} {n:Nat} {ds:List Deferred} {E:Fr} {w:World} {Q:Exit->Act->World->Prop} {i:Nat} {c:Code}:Dn (WC P (.block i c) Q n ds E w) (WC P c (Exit.inBlock i Q) n ds E w)
 |g {P:Program} {n:Nat} {ds:List Deferred} {E:Fr} {w:World} {Q:Exit->Act->World->Prop} {i:Nat}:Dn (WC P (.exit i) Q n ds E w) (WQ Q (.exit i) n ds E w)
 |h {P:Program} {n:Nat} {ds:List Deferred} {E:Fr} {w:World} {Q:Exit->Act->World->Prop}:Dn (WC P .ret Q n ds E w) (WQ Q .ret n ds E w)
 |i {n:Nat} {ds:List Deferred} {E:Fr} {w:World} {Q:Exit->Act->World->Prop} {N:Act->World->Prop} {k:Nat}:Dn (WQ (Exit.then N Q) (.exit k) n ds E w) (WQ Q (.exit k) n ds E w)
 |j {n:Nat} {ds:List Deferred} {E:Fr} {w:World} {Q:Exit->Act->World->Prop} {N:Act->World->Prop}:Dn (WQ (Exit.then N Q) .ret n ds E w) (WQ Q .ret n ds E w)
 |k {n:Nat} {ds:List Deferred} {E:Fr} {w:World} {Q:Exit->Act->World->Prop} {k:Nat}:Dn (WQ (Exit.inBlock k Q) .normal n ds E w) (WQ Q .normal n ds E w)
 |l {n:Nat} {ds:List Deferred} {E:Fr} {w:World} {Q:Exit->Act->World->Prop} {k:Nat}:Dn (WQ (Exit.inBlock k Q) .ret n ds E w) (WQ Q .ret n ds E w)
 |m {n:Nat} {ds:List Deferred} {E:Fr} {w:World} {Q:Exit->Act->World->Prop} {k:Nat}:Dn (WQ (Exit.inBlock k Q) (.exit k) n ds E w) (WQ Q .normal n ds E w)
theorem yDn {p q:Prop} (h:Dn p q) (k:q):p:=by
 cases h with
 |a=>exact a2R k
 |b=>exact a2Q k
 |c=>exact a3C k
 |d=>exact a2g k
 |e=>exact b7a k
 |f=>exact b5r k
 |g=>exact b6r k
 |h=>exact b5P k
 |i=>exact a9o k
 |j=>exact a6S k
 |k=>exact b42 k
 |l=>exact a9B k
 |m=>exact a8Z k
theorem Fr.sub_of {F G:Fr} (h:G.map (fun p=>F.get p.1)=G.map fun p=>some p.2):Fr.sub G F:=fun p hp=>by
 obtain ⟨i,hi⟩:=xd9.1 hp;have h2:=congrArg (fun l=>l[i]?) h;simp only [xh6,hi,xh7,Option.some.injEq] at h2;exact h2
theorem ck4 {a b c d:Bool} (h:(a && (b && (c && !d)))=true):a=true/\b=true/\c=true/\d=false:=by
 revert h
 cases a <;> cases b <;> cases c <;> cases d <;> simp
section
variable {P:Program} {n:Nat} {ds:List Deferred} {E:Fr} {w:World} {Q:Exit->Act->World->Prop} {ops:Array Oper} {rest:List Oper} {d:Nat} {ty:TypeId} {pos:String} {after:Array Edge} {F:Nat->Prop} {w0:World} {Γ Γ':List Asr} {T:Tab}
def b76:Op->Bool
 |.binOp .add ..|.binOp .sub ..|.binOp .mul ..=>true
 |_=>false
theorem a8 (hT:TabOk P T) {op:Op} {v:Value} (_ho:b76 op=false) (h:a0i T E op=some v) (hd:Nat.blt d n=true) (k:WL P ops Q rest n ds ((d,v)::E) w):WL P ops Q (⟨some d,op,ty,pos,after,none⟩::rest) n ds E w:=a6h hT h hd k
theorem r6 {f:FuncId} {x:Operand} {args:Array Operand} {ats:Array TypeId} {vs:List Value} {first caps:List Value} (hx:E.ev x=some (.func (.func f) first.toArray caps.toArray)) (hv:E.evs args.toList=some vs) (hd:Nat.blt d n=true) (k:∃ Φ,Fn P f (first++vs++caps) w Φ/\∀ v w',Φ v w'->WL P ops Q rest n ds ((d,v)::E) w') :
  WL P ops Q (⟨some d,.call { callee:=.value x,args:=args,argTypes:=ats },ty,pos,after,none⟩::rest) n ds E w:=k.elim fun _ h=>a8q hx hv h.1 hd h.2
theorem d7 {f:FuncId} {x:Operand} {args:Array Operand} {ats:Array TypeId} {vs:List Value} {first caps:List Value} (hS:St F w0 w Γ) (hx:E.ev x=some (.func (.func f) first.toArray caps.toArray)) (hv:E.evs args.toList=some vs) (hd:Nat.blt d n=true) (k:∃ v,Fn P f (first++vs++caps) w (RBf v w)/\∀ w',St F w0 w' Γ->WL P ops Q rest n ds ((d,v)::E) w') :
  WL P ops Q (⟨some d,.call { callee:=.value x,args:=args,argTypes:=ats },ty,pos,after,none⟩::rest) n ds E w:=k.elim fun _ h=>a8q hx hv h.1 hd (by rintro _ w' ⟨rfl,h2⟩;exact h.2 w' (hS.trans h2))
theorem y7 {K:Act->Prop} {f:FuncId} {x:Operand} {args:Array Operand} {ats:Array TypeId} {vs:List Value} {first caps:List Value} (hx:E.ev x=some (.func (.func f) first.toArray caps.toArray)) (hv:E.evs args.toList=some vs) (hd:Nat.blt d n=true)
  (k:∃ v,(∀ w,St F w0 w Γ->Fn P f (first++vs++caps) w (RBf v w))/\WD P ops (fun w'=>St F w0 w' Γ) K rest n ds ((d,v)::E)):WD P ops (fun w'=>St F w0 w' Γ) K (⟨some d,.call { callee:=.value x,args:=args,argTypes:=ats },ty,pos,after,none⟩::rest) n ds E:=k.elim fun _ h=>b61 hx hv h.1 hd h.2
theorem a3J (hT:TabOk P T) {t:TypeId} {x:Operand} {p:Addr} {dd:TypeDesc} {s:Nat} {z:Value} (hx:E.ev x=some (.pointer (some p))) (ht:T.get t=some (.sc dd s z)) (hd:Nat.blt d n=true) (k:∃ v,w.cell? p=some v/\WL P ops Q rest n ds ((d,v)::E) w):WL P ops Q (⟨some d,.load t x,ty,pos,after,none⟩::rest) n ds E w:=k.elim fun _ h=>a9 hx (Ld.sc hT ht h.1) hd h.2
theorem a1a (hT:TabOk P T) {t:TypeId} {x:Operand} {p:Addr} {el e b:Nat} {g:Bool} {z:List Value} (hx:E.ev x=some (.pointer (some p))) (ht:T.get t=some (.sl el e b g z)) (hd:Nat.blt d n=true) (k:∃ v,w.cell? p=some v/\WL P ops Q rest n ds ((d,v)::E) w):WL P ops Q (⟨some d,.load t x,ty,pos,after,none⟩::rest) n ds E w:=k.elim fun _ h=>a9 hx (Ld.sl hT ht h.1) hd h.2
theorem a9T (hT:TabOk P T) {t:TypeId} {x:Operand} {g kk s:Nat} {fs:List (Nat×Nat×Bool)} {z:List Value} (hx:E.ev x=some (.pointer (some ⟨g,kk,none⟩))) (ht:T.get t=some (.st s fs z)) (hd:Nat.blt d n=true) (k:∃ L:List Value,w.rangeAt g kk L/\L.length=s/\WL P ops Q rest n ds ((d,.agg L.toArray)::E) w):WL P ops Q (⟨some d,.load t x,ty,pos,after,none⟩::rest) n ds E w:=k.elim fun _ h=>a9 hx (Ld.st hT ht h.1 h.2.1) hd h.2.2
end
section
variable {P:Program} {n:Nat} {ds:List Deferred} {E:Fr} {w:World} {Q:Exit->Act->World->Prop} {ops:Array Oper} {S:World->Prop} {q fuel:Nat} {li:Array Bool} {d:Nat} {op:Op} {ty:TypeId} {pos:String} {after:Array Edge} {T:Tab}
theorem k6 {i:Nat} (C:Nn i) {v:Value} (hT:TabOk P T) (hi:ops[i]?=some ⟨some d,op,ty,pos,after,none⟩) (hc:(Region.noSelect ops && (Region.free .any ops li i && ((Region.ready .any ops li).contains i && !Nat.beq q i)))=true)
  (hQ:∀ c (a:Act) w,Q (.panic c) (a.put (some d) v) w->Q (.panic c) a w) (hS:li.getD q false=true\/S w) (hv:a0i T E op=some v) (hd:Nat.blt d n=true) (k:WT P ops Q S q fuel (li.setIfInBounds i true) n ds ((d,v)::E) w):WT P ops Q S q (fuel + 1) li n ds E w :=
 b6X C hT hi (ck4 hc).1 (ck4 hc).2.1 (ck4 hc).2.2.1 (ck4 hc).2.2.2 hQ hS hv hd k
theorem o3 {i:Nat} (C:Nn i) {t:TypeId} {x:Operand} {p:Addr} {v:Value} (hi:ops[i]?=some ⟨some d,.load t x,ty,pos,after,none⟩) (hc:(Region.noSelect ops && (Region.free .any ops li i && ((Region.ready .any ops li).contains i && !Nat.beq q i)))=true) (hw:a1w ops q i=true) (hnq:li.getD q false=false)
  (hQ:∀ c (a:Act) w,Q (.panic c) (a.put (some d) v) w->Q (.panic c) a w) (hS:S w) (hx:E.ev x=some (.pointer (some p))) (hl:∀ w,S w->Ld P t p v w) (hd:Nat.blt d n=true) (k:WT P ops Q S q fuel (li.setIfInBounds i true) n ds ((d,v)::E) w):WT P ops Q S q (fuel + 1) li n ds E w :=
 b5j C hi (ck4 hc).1 (ck4 hc).2.1 (ck4 hc).2.2.1 hw (ck4 hc).2.2.2 hnq hQ hS hx hl hd k
theorem m8 {i:Nat} (C:Nn i) {v:Value} (hT:TabOk P T) (hi:ops[i]?=some ⟨some d,op,ty,pos,after,none⟩) (hc:(Region.noSelect ops && (Region.free .any ops li i && ((Region.ready .any ops li).contains i && !false)))=true)
  (hQ:∀ c (a:Act) w,Q (.panic c) (a.put (some d) v) w->Q (.panic c) a w) (hS:S w) (hv:a0i T E op=some v) (hd:Nat.blt d n=true) (k:WA P ops Q S fuel (li.setIfInBounds i true) n ds ((d,v)::E) w):WA P ops Q S (fuel + 1) li n ds E w :=
 a1g C hT hi (ck4 hc).1 (ck4 hc).2.1 (ck4 hc).2.2.1 hQ hS hv hd k
theorem z7 {i:Nat} (C:Nn i) {t:TypeId} {x:Operand} {p:Addr} {v:Value} (hi:ops[i]?=some ⟨some d,.load t x,ty,pos,after,none⟩) (hc:(Region.noSelect ops && (Region.free .any ops li i && ((Region.ready .any ops li).contains i && !false)))=true)
  (hQ:∀ c (a:Act) w,Q (.panic c) (a.put (some d) v) w->Q (.panic c) a w) (hS:S w) (hx:E.ev x=some (.pointer (some p))) (hl:∀ w,S w->Ld P t p v w) (hd:Nat.blt d n=true) (k:WA P ops Q S fuel (li.setIfInBounds i true) n ds ((d,v)::E) w):WA P ops Q S (fuel + 1) li n ds E w :=
 a8n C hi (ck4 hc).1 (ck4 hc).2.1 (ck4 hc).2.2.1 hQ hS hx hl hd k
end
theorem yEn {P : Program} {f : FuncId} {fn : Func} {c : Code} {args : List Value} {w : World} {Φ : Value -> World -> Prop} {m : Nat} (h1 : P.funcs[f]? = some fn) (hm : fn.ntmps = m) (h2 : (fn.name == "runtime.NumGoroutine") = false) (h3 : fn.body.isNone = false) (hb : fn.body = some c) (hl : Nat.ble args.length m = true) (h : WC P c (bodyPost P fn (fun e w' => ∃ v, e = .returned v /\ Φ v w')) m [] (a5t 0 args) w) : Fn P f args w Φ := b29 ⟨h1, h2, h3⟩ hb hm hl h
def b0J (E:Fr):List ResultVar->Option (List Value)
 |[]=>some []
 |.tmp t::r=>match E.get t,b0J E r with
  |some v,some vs=>some (v::vs)
  |_,_=>none
 |.cell _ _::_=>none
theorem a43 {P:Program} {E:Fr} {w:World}:∀ {rs:List ResultVar} {vs:List Value},b0J E rs=some vs->ResL P E w rs vs
 |[],vs,h=>by cases h;exact .nil
 |.tmp t::r,vs,h=>by
  simp only [b0J] at h
  split at h
  ·rename_i v us h1 h2
   cases h
   exact .tmp h1 (a43 h2)
  ·cases h
 |.cell _ _::_,_,h=>by cases h
section
variable {P:Program} {n:Nat} {E:Fr} {w:World} {fn:Func} {Φ:Value->World->Prop} {v v1 v2 v3 v4:Value}
theorem b2M (h:b0J E fn.results.toList=some []) (hΦ:Φ (.tuple #[]) w):WQ (bodyPost P fn (fun e w'=>∃ v,e=.returned v/\Φ v w')) .ret n [] E w:=b0d (a43 h) hΦ
theorem a7m (h:b0J E fn.results.toList=some []) (hΦ:Φ (.tuple #[]) w):WQ (bodyPost P fn (fun e w'=>∃ v,e=.returned v/\Φ v w')) .normal n [] E w:=b69 (a43 h) hΦ
theorem k7 (h:b0J E fn.results.toList=some [v]) (hΦ:Φ v w):WQ (bodyPost P fn (fun e w'=>∃ v,e=.returned v/\Φ v w')) .ret n [] E w:=a0U (a43 h) hΦ
theorem a4H (h:b0J E fn.results.toList=some [v1,v2]) (hΦ:Φ (.tuple #[v1,v2]) w):WQ (bodyPost P fn (fun e w'=>∃ v,e=.returned v/\Φ v w')) .ret n [] E w:=a26 (a43 h) hΦ
end
theorem b4T {L:List Ar}:∀ {e:Int},x6 e L->∀ (i:Nat) (a:Ar),L[i]?=some a->a.ok:=by
 induction L with
 |nil=>intro e _ i a h;simp at h
 |cons b L ih=>
  intro e h i a ha
  cases i with
  |zero=>simp at ha;subst ha;exact h.1
  |succ i=>exact ih h.2.2 i a (by simpa using ha)
def RowsApart (v u:Value):Prop:=v.ownBlock=none\/v.ownBlock≠u.ownBlock
theorem RowsApart.symm {v u:Value} (h:RowsApart v u):RowsApart u v:=by
 unfold RowsApart at *
 cases hv:v.ownBlock <;> cases hu:u.ownBlock <;> simp_all
 omega
theorem SlAr.below {w w':World} {v:Value} {L:List Ar} (h:SlAr w v L) (hb:Below w.heap.size w w'):SlAr w' v L:=by
 rcases h with h|⟨b,off,cap,rfl,h2,h3,h4,h5⟩
 ·exact xd6 h
 ·exact xd3 ⟨b,off,cap,rfl,xb7 h2 hb.size,h3,h4,fun i a ha=>(h5 i a ha).grown hb h2⟩
def a53 (a:Ar) (page:Int):Int:=if wrap64 a.fin<=page then -1 else 1
theorem b1H (a:Ar) (page:Int) (w:World):Calls Tryz.prog 126 #[.agg (arC a).toArray,.int .i64 page] w (RB (.int .i64 (a53 a page)) w):=by
 have HE:=hid (fun w=>a8t a w);have HC:Hid (a53 a page=if wrap64 a.fin<=page then -1 else 1):=hid rfl;generalize wrap64 a.fin=f at *;unfold arC at *;by_cases h:f<=page
 ·go_enter Tryz.func126,Tryz.ntmps126
  go_wp2_with (first|go_at_call 127;(with_reducible refine (HE.out _).mono ?_);rintro e w1 ⟨rfl,hb1⟩)
  go_ret
  exact ⟨a0k (by rw [HC.out,xf0 h]),(by repeat (first|with_reducible exact Below.refl _ _|with_reducible refine Below.alloc ?_ (by (omega)) _|refine bt ?_ (by with_reducible assumption)))⟩
 ·go_enter Tryz.func126,Tryz.ntmps126
  go_wp2_with (first|go_at_call 127;(with_reducible refine (HE.out _).mono ?_);rintro e w1 ⟨rfl,hb1⟩)
  go_ret
  exact ⟨a0k (by rw [HC.out,xf1 (by omega)]),(by repeat (first|with_reducible exact Below.refl _ _|with_reducible refine Below.alloc ?_ (by (omega)) _|refine bt ?_ (by with_reducible assumption)))⟩
theorem b6J (a:Ar) (page:Int):(a53 a page == 0)=false:=by unfold a53;split <;> decide
theorem b3Z {a:Ar} {page:Int}:a53 a page < 0 ↔ wrap64 a.fin<=page:=by unfold a53;split <;> omega
theorem a6W {L:List Ar} (h:a4q L):∀ {j k:Nat} {a b:Ar},j < k->L[j]?=some a->L[k]?=some b->a.fin<=b.pg:=by
 have ok:=(a3z L).1 h;intro j k
 induction k with
 |zero=>intro a b hj;omega
 |succ k ih=>
  intro a b hj ha hb;obtain ⟨hk,_⟩:=xa7.1 hb;obtain ⟨c,hc⟩:∃ c,L[k]?=some c:=⟨L[k],by simp⟩;have h1:=((a7x hb hc).1 (ok (k + 1) hk)).2.1;rcases xp8.1 hj with h2|h2
  ·have h3:=ih h2 ha hc;have h4:=a0X h k c hc;unfold Ar.ok at h4;unfold Ar.fin at *;omega
  ·subst h2;rw [ha] at hc;cases hc;exact h1
def a4b (L:List Ar) (page:Int) (i j:Nat):Prop:=a4q L->(∀ (t:Nat) (a:Ar),t < i->L[t]?=some a->a.fin<=page)/\(∀ (t:Nat) (a:Ar),j<=t->L[t]?=some a->page < a.fin)
theorem a93 (L:List Ar) (page:Int):a4b L page 0 L.length:=fun _=>⟨fun t a h=>by omega,fun t a h ha=>by obtain ⟨h2,_⟩:=xa7.1 ha;omega⟩
theorem b5f {L:List Ar} {page:Int} {i j h:Nat} {a:Ar} (hI:a4b L page i j) (ha:L[h]?=some a) (hc:a53 a page < 0):a4b L page (h + 1) j:=fun hg=>by
 have hok:=a0X hg h a ha;rw [b3Z,a3r hok] at hc;refine ⟨fun t b ht hb=>?_,(hI hg).2⟩;rcases xp8.1 ht with h1|h1
 ·have:=a6W hg h1 hb ha;have hb':=a0X hg t b hb;unfold Ar.ok at hok;unfold Ar.fin at *;omega
 ·subst h1;rw [ha] at hb;cases hb;exact hc
theorem b4q {L:List Ar} {page:Int} {i j h:Nat} {a:Ar} (hI:a4b L page i j) (ha:L[h]?=some a) (hc:¬ a53 a page < 0):a4b L page i h:=fun hg=>by
 have hok:=a0X hg h a ha;rw [b3Z,a3r hok] at hc;refine ⟨(hI hg).1,fun t b ht hb=>?_⟩;rcases Nat.lt_or_eq_of_le ht with h1|h1
 ·have:=a6W hg h1 ha hb;have hb':=a0X hg t b hb;unfold Ar.ok at hb';unfold Ar.fin at *;omega
 ·subst h1;rw [ha] at hb;cases hb;omega
def b02 (L:List Ar) (page:Int) (w:World) (e:Ending) (w':World):Prop:=∃ i:Nat,i<=L.length/\e=.returned (.tuple #[.int .i64 i,.bool false])/\Below w.heap.size w w'/\a4b L page i i
theorem b3z (i j n:Nat) (hi:i<=n) (hj:j<=n) (h:n<=9223372036854775807):IntKind.u64.wrap (wrap64 ((i:Int) + j))=(i:Int) + j:=by
 rw [IntKind.wrap_u64];unfold wrap64;omega
theorem b11 (i j n:Nat) (hi:i<=n) (hj:j<=n) (h:n<=9223372036854775807):IntKind.u64.wrap ((i:Int) + j)=(i:Int) + j:=by
 rw [IntKind.wrap_u64];omega
theorem b2i (h n:Nat) (h1:h < n) (h2:n<=9223372036854775807):wrap64 ((h:Int) + 1)=(h:Int) + 1:=by unfold wrap64;omega
theorem b1c {n cap:Nat} (h:n<=cap) (hm:cap<=maxLen):n<=9223372036854775807:=xd5 h hm
theorem ms1 {i j h:Nat} (h1:i<=h) (h2:h < j):(j:Int).toNat - ((h:Int) + 1).toNat < (j:Int).toNat - (i:Int).toNat:=by omega
theorem ms2 {i j h:Nat} (h1:i<=h) (h2:h < j):(h:Int).toNat - (i:Int).toNat < (j:Int).toNat - (i:Int).toNat:=by omega
theorem b2a (i j n:Nat) (hi:i<=n) (hj:j<=n) (h:n<=9223372036854775807):wrap64 (((i:Int) + j) / 2)=((i + j) / 2:Nat):=by
 unfold wrap64;omega
theorem b6B {L:List Ar} {w:World} (b off cap:Nat) (page:Int) (hbl:b < w.heap.size) (hcap:L.length<=cap) (hmax:cap<=maxLen) (t3:∀ i a,L[i]?=some a->CellsAr w b (off + i * 4) a) :
  Calls Tryz.prog 125 #[.slice (some ⟨b,off,none⟩) L.length cap,.int .i64 page,.func (.func 126) #[] #[]] w (b02 L page w):=by
 have hlen:=b1c hcap hmax;clear hmax hcap;have HLEN:=hid hlen;clear hlen;have HL:=hid t3;have HI:=hid (a93 L page);clear t3
 go_enter Tryz.func125,Tryz.ntmps125
 go_wp2
 go_loopw [9,10] (fun vi vj wr=>∃ i j:Nat,i<=j/\j<=L.length/\vi=.int .i64 i/\vj=.int .i64 j/\Below w.heap.size w wr/\Hid (a4b L page i j)) (fun vi vj _=>(intOf vj).toNat - (intOf vi).toNat)
 case atStart=>exact ⟨0,L.length,by omega,by omega,rfl,rfl,Below.refl _ _,HI.out⟩
 case round=>
  clear HI;obtain ⟨i,j,hij,hj,rfl,rfl,hb,HI⟩:=hrel;by_cases hlt:i < j
  ·obtain ⟨h,hh⟩:∃ h,h=(i + j) / 2:=⟨_,rfl⟩;have hhj:h < j:=by omega
   have hih:i<=h:=by omega
   obtain ⟨a,ha⟩:∃ a,L[h]?=some a:=⟨L[h]'(by omega),by simp⟩;obtain ⟨c0,c1,c2,c3⟩:=(HL.out h a ha).grown hb hbl;have hbr:=a20 (xb7 hbl hb.size);have hsz:=hb.size;have hq0:=b11 i j L.length (xd5 hij hj) hj HLEN.out;have hq1:=b3z i j L.length (xd5 hij hj) hj HLEN.out;have hq2:=b2a i j L.length (xd5 hij hj) hj HLEN.out;rw [<- hh] at hq2;have HC:=hid (fun w=>b1H a page w);unfold arC at HC;have hw1:wrap64 ((h:Int) + 1)=(h:Int) + 1:=b2i h L.length (xb7 hhj hj) HLEN.out;have hlh:(h:Int) < L.length:=Int.ofNat_lt.2 (xb7 hhj hj);clear hh
   go_upto_region 5 with fail
   rw [hq2];clear hq0 hq1 hq2;by_cases hc:a53 a page < 0
   ·have HX:=hid (b5f HI.out ha hc);generalize a53 a page=cv at *
    go_wp2_with (first|go_at_call 126;(with_reducible refine (HC.out _).mono ?_);rintro e w1 ⟨rfl,hb1⟩)
    go_roundw
    case rel=>exact ⟨h + 1,j,Nat.succ_le_of_lt hhj,hj,by rw [hw1];rfl,rfl,(by repeat (first|with_reducible assumption|refine bt ?_ (by with_reducible assumption))),HX.out⟩
    case measure=>(rw [hw1];exact ms1 hih hhj)
   ·have HX:=hid (b4q HI.out ha hc);generalize a53 a page=cv at *
    go_wp2_with (first|go_at_call 126;(with_reducible refine (HC.out _).mono ?_);rintro e w1 ⟨rfl,hb1⟩)
    go_roundw
    case rel=>exact ⟨i,h,hih,Nat.le_of_lt (xb7 hhj hj),rfl,rfl,(by repeat (first|with_reducible assumption|refine bt ?_ (by with_reducible assumption))),HX.out⟩
    case measure=>exact ms2 hih hhj
  ·obtain rfl:i=j:=by omega
   by_cases hn:i < L.length
   ·obtain ⟨a,ha⟩:∃ a,L[i]?=some a:=⟨L[i],by simp [hn]⟩;obtain ⟨c0,c1,c2,c3⟩:=(HL.out i a ha).grown hb hbl;have hbr:=a20 (xb7 hbl hb.size);have hsz:=hb.size;have HC:=hid (fun w=>b1H a page w);have hz:=b6J a page;unfold arC at HC;generalize a53 a page=cv at *
    go_wp2_with (first|go_at_call 126;(with_reducible refine (HC.out _).mono ?_);rintro e w1 ⟨rfl,hb1⟩)
    go_ret2
    exact ⟨i,hj,rfl,(by repeat (first|with_reducible assumption|refine bt ?_ (by with_reducible assumption))),HI.out⟩
   ·go_wp2
    go_ret2
    exact ⟨i,hj,rfl,(by repeat ((with_reducible assumption))),HI.out⟩
theorem a54 {va vb:Value} {A B:List Ar} {w:World} (ha:SlAr w va A) (hb:SlAr w vb B):Calls Tryz.prog 61 #[va,vb] w (RB (.bool (decide (A=B))) w):=by
 rcases ha with ⟨p,c,rfl,rfl⟩|⟨b1,off1,cap1,rfl,h2,h3,h4,h5⟩
 ·rcases hb with ⟨p2,c2,rfl,rfl⟩|⟨b2,off2,cap2,rfl,k2,k3,k4,k5⟩
  ·go_enter Tryz.func61,Tryz.ntmps61
   go_wp2
   go_loopw [5] (fun vi wr=>vi=.int .i64 0/\wr=w) (fun _ _=>0)
   case atStart=>exact ⟨rfl,rfl⟩
   case round=>
    obtain ⟨rfl,rfl⟩:=hrel
    go_wp2
    go_ret
    exact ⟨a0f (by simp),Below.refl _ _⟩
  ·cases B with
   |nil=>
    simp only [xa2]
    go_enter Tryz.func61,Tryz.ntmps61
    go_wp2
    go_loopw [5] (fun vi wr=>vi=.int .i64 0/\wr=w) (fun _ _=>0)
    case atStart=>exact ⟨rfl,rfl⟩
    case round=>
     obtain ⟨rfl,rfl⟩:=hrel
     go_wp2
     go_ret
     exact ⟨a0f (by simp),Below.refl _ _⟩
   |cons c B=>
    have hn:((0:Int) != ((c::B).length:Nat))=true:=by rw [bne_iff_ne];simp;omega
    generalize hD:(c::B).length=n at *
    go_enter Tryz.func61,Tryz.ntmps61
    go_wp2
    go_ret
    exact ⟨a0f (by simp),Below.refl _ _⟩
 ·rcases hb with ⟨p2,c2,rfl,rfl⟩|⟨b2,off2,cap2,rfl,k2,k3,k4,k5⟩
  ·cases A with
   |nil=>
    simp only [xa2]
    go_enter Tryz.func61,Tryz.ntmps61
    go_wp2
    go_loopw [5] (fun vi wr=>vi=.int .i64 0/\wr=w) (fun _ _=>0)
    case atStart=>exact ⟨rfl,rfl⟩
    case round=>
     obtain ⟨rfl,rfl⟩:=hrel
     go_wp2
     go_ret
     exact ⟨a0f (by simp),Below.refl _ _⟩
   |cons c A=>
    have hn:(((c::A).length:Int) != 0)=true:=by rw [bne_iff_ne];simp;omega
    generalize hD:(c::A).length=n at *
    go_enter Tryz.func61,Tryz.ntmps61
    go_wp2
    go_ret
    exact ⟨a0f (by simp),Below.refl _ _⟩
  ·by_cases hl:A.length=B.length
   ·exact b19 b1 off1 cap1 b2 off2 cap2 h2 k2 h5 k5 hl (b1c h3 h4)
   ·have HX:=hid (b49 hl);have hn:((A.length:Int) != B.length)=true:=by rw [bne_iff_ne];omega
    clear hl h4 k4 h5 k5 h3 k3
    go_enter Tryz.func61,Tryz.ntmps61
    go_wp2
    go_ret
    exact ⟨a0f (xj0 HX.out).symm,Below.refl _ _⟩
theorem a4m (n lo hi:Int) (w:World):Calls Tryz.prog 56 #[.int .i64 n,.int .i64 lo,.int .i64 hi] w fun e w'=>e=.returned (.bool (decide (lo<=n/\n<=hi)))/\w=w':=by
 by_cases h1:lo<=n
 ·by_cases h2:n<=hi
  ·go_enter Tryz.func56,Tryz.ntmps56
   go_wp2
   go_ret
   exact ⟨a0f (by simp [h1,h2]),rfl⟩
  ·go_enter Tryz.func56,Tryz.ntmps56
   go_wp2
   go_ret
   exact ⟨a0f (by simp [h1,h2]),rfl⟩
 ·go_enter Tryz.func56,Tryz.ntmps56
  go_wp2
  go_ret
  exact ⟨a0f (by simp;omega),rfl⟩
end Go.Proofs.YtejnpppejalhfabGreat
