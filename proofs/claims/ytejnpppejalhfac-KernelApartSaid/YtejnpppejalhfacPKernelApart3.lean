/- Texts that the proof stands on, one behind the other: Tab, Sc12, Go, As1, As2, Ar19, Ar20, Ar21, Ar22, Ar23, Ar5, Ar11, Ar12, Ar13, Ar14, Ar15, Ar16, As3, As4, Ar6, As5, PlArea3, PlLnk2, PlKer, Sc14, Sc15, Sc16. -/
import Derived.Test.YtejnpppejalhfacProg
import Derived.Laws.OwnMore
import Derived.Maps.AppendAt
import Derived.Deep.RegionWith
import Derived.Deep.DeepCutAuto
import Derived.Lib.AppendZerosOnto
import Derived.Lib.Walk
import Derived.OrdersHeld
import Derived.WalkLawsBesides
import Derived.Recover
import Derived.Laws.Strings2
import Derived.Laws.Strings3
import Derived.Test.YtejnpppejalhfacPKernelApart2
/- The types of this program that the step calculus meets (printed by tab.py). -/
namespace Go.Proofs.Ytejnpppejalhfac
open Go.RowKit Go.Sort
def tab:Tab:=[
 (3,.sc (.int .i64) 1 (.int .i64 0)),
 (27,.st 5 [(0,1,false),(1,1,false),(2,1,false),(3,1,false),(4,1,false)] [.slice none 0 0,.slice none 0 0,.slice none 0 0,.slice none 0 0,.int .i64 0]),
 (39,.sl 55 3 24 true [.int .i64 0,.int .i64 0,.int .i64 0]),
 (9,.sc .string 1 (.string ⟨#[]⟩)),
 (71,.st 4 [(0,1,false),(1,1,false),(2,1,false),(3,1,false)] [.int .i64 0,.int .i64 0,.int .i64 0,.bool false]),
 (55,.st 3 [(0,1,false),(1,1,false),(2,1,false)] [.int .i64 0,.int .i64 0,.int .i64 0]),
 (38,.sl 71 4 32 true [.int .i64 0,.int .i64 0,.int .i64 0,.bool false]),
 (116,.st 6 [(0,1,false),(1,1,false),(2,1,false),(3,1,false),(4,1,false),(5,1,false)] [.string ⟨#[]⟩,.slice none 0 0,.slice none 0 0,.slice none 0 0,.slice none 0 0,.int .i64 0]),
 (110,.st 5 [(0,1,false),(1,1,false),(2,1,false),(3,1,false),(4,1,false)] [.int .i64 0,.int .i64 0,.string ⟨#[]⟩,.bool false,.bool false]),
 (23,.sl 43 4 32 true [.string ⟨#[]⟩,.int .i64 0,.bool false,.bool false]),
 (65,.st 2 [(0,1,false),(1,1,false)] [.int .i64 0,.int .i64 0]),
 (58,.st 7 [(0,5,true),(5,1,false),(6,1,false)] [.slice none 0 0,.slice none 0 0,.slice none 0 0,.slice none 0 0,.int .i64 0,.int .i64 0,.slice none 0 0]),
 (25,.sl 41 3 56 true [.bool false,.slice none 0 0,.slice none 0 0]),
 (62,.st 3 [(0,1,false),(1,1,false),(2,1,false)] [.slice none 0 0,.slice none 0 0,.int .i64 0]),
 (41,.st 3 [(0,1,false),(1,1,false),(2,1,false)] [.bool false,.slice none 0 0,.slice none 0 0]),
 (97,.st 3 [(0,1,false),(1,1,false),(2,1,false)] [.int .i64 0,.string ⟨#[]⟩,.slice none 0 0]),
 (43,.st 4 [(0,1,false),(1,1,false),(2,1,false),(3,1,false)] [.string ⟨#[]⟩,.int .i64 0,.bool false,.bool false]),
 (24,.sl 45 2 24 true [.string ⟨#[]⟩,.int .i64 0]),
 (22,.sl 97 3 48 true [.int .i64 0,.string ⟨#[]⟩,.slice none 0 0]),
 (111,.sl 110 5 40 true [.int .i64 0,.int .i64 0,.string ⟨#[]⟩,.bool false,.bool false]),
 (47,.sc (.pointer 58) 1 (.pointer none)),
 (90,.sl 137 7 56 true [.int .i64 0,.int .i64 0,.int .i64 0,.int .i64 0,.int .i64 0,.int .i64 0,.bool false]),
 (4,.sc .bool 1 (.bool false)),
 (112,.sl 9 1 16 false [.string ⟨#[]⟩]),
 (153,.st 7 [(0,6,true),(6,1,false)] [.string ⟨#[]⟩,.slice none 0 0,.slice none 0 0,.slice none 0 0,.slice none 0 0,.int .i64 0,.int .i64 0]),
 (45,.st 2 [(0,1,false),(1,1,false)] [.string ⟨#[]⟩,.int .i64 0]),
 (123,.sl 5 1 1 false [.int .u8 0]),
 (170,.st 3 [(0,1,false),(1,1,false),(2,1,false)] [.int .i64 0,.string ⟨#[]⟩,.int .i64 0]),
 (149,.st 4 [(0,1,false),(1,1,false),(2,1,false),(3,1,false)] [.map none,.map none,.slice none 0 0,.int .i64 0]),
 (143,.sl 116 6 120 true [.string ⟨#[]⟩,.slice none 0 0,.slice none 0 0,.slice none 0 0,.slice none 0 0,.int .i64 0]),
 (147,.sl 153 7 128 true [.string ⟨#[]⟩,.slice none 0 0,.slice none 0 0,.slice none 0 0,.slice none 0 0,.int .i64 0,.int .i64 0]),
 (56,.sl 3 1 8 false [.int .i64 0]),
 (95,.sl 100 2 24 true [.int .i64 0,.string ⟨#[]⟩]),
 (178,.st 2 [(0,1,false),(1,1,false)] [.string ⟨#[]⟩,.int .i64 0]),
 (100,.st 2 [(0,1,false),(1,1,false)] [.int .i64 0,.string ⟨#[]⟩]),
 (113,.sl 178 2 24 true [.string ⟨#[]⟩,.int .i64 0]),
 (114,.sl 170 3 32 true [.int .i64 0,.string ⟨#[]⟩,.int .i64 0]),
 (83,.sl 90 1 24 false [.slice none 0 0]),
 (85,.st 4 [(0,1,false),(1,1,false),(2,1,false),(3,1,false)] [.pointer none,.slice none 0 0,.slice none 0 0,.int .i64 0]),
 (137,.st 7 [(0,3,true),(3,4,true)] [.int .i64 0,.int .i64 0,.int .i64 0,.int .i64 0,.int .i64 0,.int .i64 0,.bool false]),
 (82,.sc (.pointer 85) 1 (.pointer none)),
 (146,.sc (.map 9 3) 1 (.map none)),
 (108,.st 5 [(0,1,false),(1,1,false),(2,1,false),(3,1,false),(4,1,false)] [.int .i64 0,.int .i64 0,.int .i64 0,.int .i64 0,.int .i64 0]),
 (145,.sc (.map 9 116) 1 (.map none)),
 (79,.sc (.pointer 27) 1 (.pointer none)),
 (163,.sl 143 1 24 false [.slice none 0 0]),
 (159,.sc (.int .u64) 1 (.int .u64 0)),
 (167,.sc (.map 3 175) 1 (.map none)),
 (144,.sc (.pointer 149) 1 (.pointer none)),
 (5,.sc (.int .u8) 1 (.int .u8 0)),
 (81,.sc (.func #[55] #[4] false) 1 (.nilFunc)),
 (165,.sl 151 1 8 false [.nilFunc]),
 (190,.sc (.func #[21] #[4] false) 1 (.nilFunc)),
 (183,.sc (.int .u64) 1 (.int .u64 0)),
 (88,.sc (.func #[41] #[4] false) 1 (.nilFunc)),
 (122,.sc (.func #[120,3,3] #[] false) 1 (.nilFunc)),
 (129,.sc (.func #[55,3] #[3] false) 1 (.nilFunc)),
 (139,.sc (.func #[137] #[4] false) 1 (.nilFunc)),
 (151,.sc (.func #[116] #[28] false) 1 (.nilFunc)),
 (127,.sc (.func #[71,3] #[3] false) 1 (.nilFunc)),
 (131,.sc (.func #[97,3] #[3] false) 1 (.nilFunc)),
 (155,.sc (.pointer 62) 1 (.pointer none)),
 (120,.sc (.pointer 43) 1 (.pointer none)),
 (186,.sc (.func #[43] #[4] false) 1 (.nilFunc)),
 (195,.sc (.func #[45] #[4] false) 1 (.nilFunc)),
 (21,.sc (.int .i32) 1 (.int .i32 0))]
set_option maxRecDepth 100000 in
theorem tabOk:TabOk Try.prog tab:=by
 unfold tab
 repeat (first|exact TabOk.nil _|refine TabOk.cons (by kernel_rfl) (by rfl) ?_)
end Go.Proofs.Ytejnpppejalhfac
/- THE STEP CALCULUS, part 12: append of a slice that is only read, empty or not. -/
namespace Go.Proofs.Ytejnpppejalhfac
open Go.RowKit Go.Sort
section
variable {P:Program} {n:Nat} {ds:List Deferred} {E:Fr} {w:World} {Q:Exit→Act→World→Prop} {ops:Array Oper} {rest:List Oper} {d:Nat} {dst:Option Nat} {ty:TypeId} {pos:String} {after:Array Edge} {F:Nat→Prop} {w0:World} {Γ:List Asr} {T:Tab}
theorem g_appendSl (hS:St F w0 w Γ) (hT:TabOk P T) {t e sz eb i:Nat} {ag:Bool} {ez:List Value} {x y:Operand} {v u:Value} {rows news:List (List Value)} (ht:T.get t=some (.sl e sz eb ag ez)) (hx:E.ev x=some v) (hi:Γ[i]?=some (.row e sz v rows)) (hy:E.ev y=some u)
  (hn:Sl nF w sz u news) (hbig:(rows.length + news.length) * (eb + 1)≤140737488355328) :
  Gets P ⟨dst,.call { callee:=.builtin .append,args:=#[x,y],argTypes:=#[t,t] },ty,pos,after,none⟩ n ds E w (fun v' w'=>∃ p cap,v'=.slice p (rows.length + news.length) cap∧St F w0 w' (Γ.set i (.row e sz (.slice p (rows.length + news.length) cap) (rows++news)))):=by
 rcases hn with ⟨p,c,rfl,rfl⟩|⟨b,off,cap,rfl,h2,h3,h4⟩
 ·cases p with
  |none=>
   intro a ha K Q k
   obtain ⟨ji,zv,hu,hinfo,_⟩:=hT.sl ht
   obtain ⟨ho,hlen,hone⟩:=hS.at_ hi
   have e1:Builtin.append_ #[t,t] ty #[v,.slice none 0 c]=Builtin.append_ #[t,t] ty #[v,.slice none 0 0]:=rfl
   have hr:=run_append_owned_none (P:=P) w 0 t ty e ji sz hu hinfo v _ _ ho
   have hex:(execOp a.eval ⟨dst,.call { callee:=.builtin .append,args:=#[x,y],argTypes:=#[t,t] },ty,pos,after,none⟩).run P w=.ok (.value v) w:=by
    simp [execOp,resolve,invoke,builtin,ha.ev hx,ha.ev hy,e1,hr,Result.andThen]
   unfold Oper.wp
   rw [hex]
   obtain ⟨p,cap,hv⟩:=hS.rowSlice i hi
   subst hv
   refine k _ _ ⟨p,cap,rfl,?_⟩
   rw [List.append_nil]
   exact hS.upd hi (World.grownBy.refl _ _) ⟨ho,hlen,hone⟩ (fun q hq=>Or.inl hq)
  |some a0=>
   intro a ha K Q k
   obtain ⟨ji,zv,hu,hinfo,_,hs,hby,hz,hzl,_,hsz,hs0⟩:=hT.sl ht
   obtain ⟨ho,hlen,hone⟩:=hS.at_ hi
   have hb1:rows.length * eb + rows.length≤140737488355328:=by rw [List.length_nil,Nat.add_zero,Nat.mul_succ] at hbig;exact hbig
   obtain ⟨v',w',hrun,hown,hg,_,hat⟩:=run_append_own_at (P:=P) w 0 t ty e ji zv sz eb hu hinfo hz hs hby (by rw [← Array.length_toList,hzl,hsz]) (Nat.pos_of_ne_zero hs0) v rows.length rows.flatten ho a0 0 c [] (by simp) (fun j u hu=>by simp at hu) (by simp) (by unfold maxLen;omega) (by rw [Nat.add_zero];omega) (Nat.zero_le _)
   have hex:(execOp a.eval ⟨dst,.call { callee:=.builtin .append,args:=#[x,y],argTypes:=#[t,t] },ty,pos,after,none⟩).run P w=.ok (.value v') w':=by
    simp [execOp,resolve,invoke,builtin,ha.ev hx,ha.ev hy,hrun,Result.andThen]
   unfold Oper.wp
   rw [hex]
   rw [Nat.add_zero,List.append_nil] at hown
   have hown':(Asr.row e sz v' rows).holds w':=⟨hown,hlen,hone⟩
   obtain ⟨p,cap,hv'⟩:∃ p cap,v'=.slice p rows.length cap:=by
    rcases hown.2 with ⟨rfl,h0⟩|⟨g,cap,cur,rfl,_⟩
    ·exact ⟨none,0,by rw [h0]⟩
    ·exact ⟨_,_,rfl⟩
   subst hv'
   refine k _ _ ⟨p,cap,rfl,?_⟩
   rw [List.append_nil]
   refine hS.upd hi hg hown' fun q hq=>?_
   rcases hat with h|h
   ·exact Or.inl (h.symm.trans hq)
   ·have:some w.heap.size=some q:=h.symm.trans hq
    cases this
    exact Or.inr (Nat.le_refl _)
 ·exact g_append hS hT ht hx hi hy h4 rfl hbig
theorem l_appendSl (hS:St F w0 w Γ) (hT:TabOk P T) {t e sz eb:Nat} (i:Nat) {ag:Bool} {ez:List Value} {x y:Operand} {v u:Value} {rows news:List (List Value)} (ht:T.get t=some (.sl e sz eb ag ez)) (hx:E.ev x=some v) (hi:Γ[i]?=some (.row e sz v rows)) (hy:E.ev y=some u)
  (hn:Sl nF w sz u news) (hbig:(rows.length + news.length) * (eb + 1)≤140737488355328) (hd:Nat.blt d n=true) (k:∀ p cap w',St F w0 w' (Γ.set i (.row e sz (.slice p (rows.length + news.length) cap) (rows++news)))→WL P ops Q rest n ds ((d,.slice p (rows.length + news.length) cap)::E) w'):WL P ops Q (⟨some d,.call { callee:=.builtin .append,args:=#[x,y],argTypes:=#[t,t] },ty,pos,after,none⟩::rest) n ds E w :=
 l_gets hd (g_appendSl hS hT ht hx hi hy hn hbig) (by rintro _ w' ⟨p,cap,rfl,h⟩;exact k p cap w' h)
theorem r_remT {t yt:TypeId} {x y:Operand} {m k:Int} (hx:E.ev x=some (.int .i64 m)) (hy:E.ev y=some (.int .i64 k)) (h3:0 < k):∀ a,Has n ds a E→∀ dst,Runs P ⟨dst,.binOp .rem t x y yt,ty,pos,after,none⟩ a (.int .i64 (m.tmod k)):=fun a ha _ w=>by
 have hk:¬ k=0:=by omega
 simp [execOp,ha.ev hx,ha.ev hy,eqGuard,binOp,Op.intDiv,hk]
theorem l_remT {t yt:TypeId} {x y:Operand} {m k:Int} (hx:E.ev x=some (.int .i64 m)) (hy:E.ev y=some (.int .i64 k)) (h3:0 < k) (hd:Nat.blt d n=true) (k':WL P ops Q rest n ds ((d,.int .i64 (m.tmod k))::E) w):WL P ops Q (⟨some d,.binOp .rem t x y yt,ty,pos,after,none⟩::rest) n ds E w:=l_runs (fun a ha=>r_remT hx hy h3 a ha _) hd k'
end
end Go.Proofs.Ytejnpppejalhfac
/- Steps of the calculus by name: each is a lemma whose last argument is found by the steps that stand there; what is left of the goal is handed on. -/
namespace Go.Proofs.Ytejnpppejalhfac
open Go.RowKit Go.Sort
structure Wr (q:Prop):Prop where
 o:q
section
variable {p q r c:Prop}
theorem zLd (h:p:=by first|(first|((with_reducible apply Loads.sc tabOk);exact rfl;(first|exact hS.blkC 0 rfl rfl|exact hS.blkC 1 rfl rfl|exact hS.blkC 2 rfl rfl|exact hS.blkC 3 rfl rfl|exact hS.blkC 4 rfl rfl|exact hS.blkC 5 rfl rfl|exact hS.blkC 6 rfl rfl|exact hS.blkC 7 rfl rfl|exact hS.bs (by assumption)|exact hS.roC0 (by assumption) (by assumption) rfl|exact hS.roC (by assumption) (by assumption) rfl|exact hS.roC2 (by assumption) (by assumption) rfl|exact hS.rowC0 0 rfl (by assumption) rfl|exact hS.rowCj 0 rfl (by assumption) rfl|exact hS.rowC0 1 rfl (by assumption) rfl|exact hS.rowCj 1 rfl (by assumption) rfl|exact hS.rowC0 2 rfl (by assumption) rfl|exact hS.rowCj 2 rfl (by assumption) rfl|exact hS.rowC0 3 rfl (by assumption) rfl|exact hS.rowCj 3 rfl (by assumption) rfl))|((with_reducible apply Loads.sl tabOk);exact rfl;(first|exact hS.blkC 0 rfl rfl|exact hS.blkC 1 rfl rfl|exact hS.blkC 2 rfl rfl|exact hS.blkC 3 rfl rfl|exact hS.blkC 4 rfl rfl|exact hS.blkC 5 rfl rfl|exact hS.blkC 6 rfl rfl|exact hS.blkC 7 rfl rfl|exact hS.bs (by assumption)|exact hS.roC0 (by assumption) (by assumption) rfl|exact hS.roC (by assumption) (by assumption) rfl|exact hS.roC2 (by assumption) (by assumption) rfl|exact hS.rowC0 0 rfl (by assumption) rfl|exact hS.rowCj 0 rfl (by assumption) rfl|exact hS.rowC0 1 rfl (by assumption) rfl|exact hS.rowCj 1 rfl (by assumption) rfl|exact hS.rowC0 2 rfl (by assumption) rfl|exact hS.rowCj 2 rfl (by assumption) rfl|exact hS.rowC0 3 rfl (by assumption) rfl|exact hS.rowCj 3 rfl (by assumption) rfl))|((with_reducible apply Loads.st tabOk);exact rfl;(first|exact hS.blkR 0 rfl|exact hS.blkR 1 rfl|exact hS.blkR 2 rfl|exact hS.blkR 3 rfl|exact hS.blkR 4 rfl|exact hS.blkR 5 rfl|exact hS.roR (by assumption) (by assumption)|exact hS.rowR 0 rfl (by assumption)|exact hS.rowR 1 rfl (by assumption)|exact hS.rowR 2 rfl (by assumption)|exact hS.rowR 3 rfl (by assumption));exact rfl)|((with_reducible apply Loads.ar tabOk);exact rfl;(first|exact hS.blkR 0 rfl|exact hS.blkR 1 rfl|exact hS.blkR 2 rfl|exact hS.blkR 3 rfl|exact hS.blkR 4 rfl|exact hS.blkR 5 rfl|exact hS.roR (by assumption) (by assumption)|exact hS.rowR 0 rfl (by assumption)|exact hS.rowR 1 rfl (by assumption)|exact hS.rowR 2 rfl (by assumption)|exact hS.rowR 3 rfl (by assumption));exact rfl))|fail):p:=h
theorem zS (h:p:=by (repeat (first|exact Fr.sub_nil _|(apply Fr.sub_cons;exact rfl)))):p:=h
theorem yO (k:q) (h:Wr q→p:=by first|(intro k;(first|((with_reducible apply l_pureN tabOk);(iterate 3 exact rfl))|((with_reducible apply l_load);exact rfl;exact zLd;exact rfl)|((with_reducible apply l_ix tabOk);(iterate 3 exact rfl);(first|exact rfl|assumption|exact Int.toNat_of_nonneg (by omega));(first|omega|(simp only [List.length_map,List.length_cons,List.length_nil,List.length_append];omega));exact rfl)|((with_reducible apply l_add);exact rfl;exact rfl;omega;omega;exact rfl)|((with_reducible apply l_sub);exact rfl;exact rfl;omega;omega;exact rfl)|((with_reducible apply l_mul);exact rfl;exact rfl;omega;omega;exact rfl)|((with_reducible apply l_pure tabOk);exact rfl;exact rfl)|((with_reducible apply l_eqb tabOk);(iterate 4 exact rfl))|((with_reducible apply l_neb tabOk);(iterate 4 exact rfl))|((with_reducible apply l_build tabOk);exact rfl;exact rfl;(first|exact (rfl:_=some [_])|exact (rfl:_=some [_,_])|exact (rfl:_=some [_,_,_])|exact (rfl:_=some [_,_,_,_])|exact (rfl:_=some [_,_,_,_,_])|exact (rfl:_=some [_,_,_,_,_,_])|exact (rfl:_=some [_,_,_,_,_,_,_])|exact rfl);exact rfl)|(with_reducible first|apply c_seq|apply c_region|apply l_nil|apply q_then)|((with_reducible apply l_yes);(iterate 4 exact rfl);first|exact rfl|assumption)|((with_reducible apply l_no);(iterate 4 exact rfl);(first|exact rfl|assumption);exact rfl)|((with_reducible apply l_undef);(iterate 5 exact rfl))|((with_reducible apply l_no0);(iterate 4 exact rfl);(first|exact rfl|assumption))|((with_reducible apply l_undef0);(iterate 4 exact rfl))|((with_reducible apply l_pick1);exact rfl;(first|exact rfl|assumption);exact rfl;exact rfl)|((with_reducible apply l_pick2);exact rfl;(first|exact rfl|assumption);exact rfl;exact rfl)|(with_reducible first|apply c_skip|apply c_block|apply c_exit|apply c_ret|apply q_then_exit|apply q_then_ret|apply q_block|apply q_block_ret|apply q_block_exit)|((with_reducible apply q_block_other);exact rfl)|((with_reducible apply c_ift);exact rfl;first|exact rfl|assumption)|((with_reducible apply c_iff);exact rfl;first|exact rfl|assumption));(repeat (first|((with_reducible apply l_pureN tabOk);(iterate 3 exact rfl))|((with_reducible apply l_load);exact rfl;exact zLd;exact rfl)|((with_reducible apply l_ix tabOk);(iterate 3 exact rfl);(first|exact rfl|assumption|exact Int.toNat_of_nonneg (by omega));(first|omega|(simp only [List.length_map,List.length_cons,List.length_nil,List.length_append];omega));exact rfl)|((with_reducible apply l_add);exact rfl;exact rfl;omega;omega;exact rfl)|((with_reducible apply l_sub);exact rfl;exact rfl;omega;omega;exact rfl)|((with_reducible apply l_mul);exact rfl;exact rfl;omega;omega;exact rfl)|((with_reducible apply l_pure tabOk);exact rfl;exact rfl)|((with_reducible apply l_eqb tabOk);(iterate 4 exact rfl))|((with_reducible apply l_neb tabOk);(iterate 4 exact rfl))|((with_reducible apply l_build tabOk);exact rfl;exact rfl;(first|exact (rfl:_=some [_])|exact (rfl:_=some [_,_])|exact (rfl:_=some [_,_,_])|exact (rfl:_=some [_,_,_,_])|exact (rfl:_=some [_,_,_,_,_])|exact (rfl:_=some [_,_,_,_,_,_])|exact (rfl:_=some [_,_,_,_,_,_,_])|exact rfl);exact rfl)|(with_reducible first|apply c_seq|apply c_region|apply l_nil|apply q_then)|((with_reducible apply l_yes);(iterate 4 exact rfl);first|exact rfl|assumption)|((with_reducible apply l_no);(iterate 4 exact rfl);(first|exact rfl|assumption);exact rfl)|((with_reducible apply l_undef);(iterate 5 exact rfl))|((with_reducible apply l_no0);(iterate 4 exact rfl);(first|exact rfl|assumption))|((with_reducible apply l_undef0);(iterate 4 exact rfl))|((with_reducible apply l_pick1);exact rfl;(first|exact rfl|assumption);exact rfl;exact rfl)|((with_reducible apply l_pick2);exact rfl;(first|exact rfl|assumption);exact rfl;exact rfl)|(with_reducible first|apply c_skip|apply c_block|apply c_exit|apply c_ret|apply q_then_exit|apply q_then_ret|apply q_block|apply q_block_ret|apply q_block_exit)|((with_reducible apply q_block_other);exact rfl)|((with_reducible apply c_ift);exact rfl;first|exact rfl|assumption)|((with_reducible apply c_iff);exact rfl;first|exact rfl|assumption)));exact k.o)|fail):p:=h ⟨k⟩
theorem yO1 (k:q) (h:Wr q→p:=by first|(intro k;(first|((with_reducible apply l_pureN tabOk);(iterate 3 exact rfl))|((with_reducible apply l_load);exact rfl;exact zLd;exact rfl)|((with_reducible apply l_ix tabOk);(iterate 3 exact rfl);(first|exact rfl|assumption|exact Int.toNat_of_nonneg (by omega));(first|omega|(simp only [List.length_map,List.length_cons,List.length_nil,List.length_append];omega));exact rfl)|((with_reducible apply l_add);exact rfl;exact rfl;omega;omega;exact rfl)|((with_reducible apply l_sub);exact rfl;exact rfl;omega;omega;exact rfl)|((with_reducible apply l_mul);exact rfl;exact rfl;omega;omega;exact rfl)|((with_reducible apply l_pure tabOk);exact rfl;exact rfl)|((with_reducible apply l_eqb tabOk);(iterate 4 exact rfl))|((with_reducible apply l_neb tabOk);(iterate 4 exact rfl))|((with_reducible apply l_build tabOk);exact rfl;exact rfl;(first|exact (rfl:_=some [_])|exact (rfl:_=some [_,_])|exact (rfl:_=some [_,_,_])|exact (rfl:_=some [_,_,_,_])|exact (rfl:_=some [_,_,_,_,_])|exact (rfl:_=some [_,_,_,_,_,_])|exact (rfl:_=some [_,_,_,_,_,_,_])|exact rfl);exact rfl)|(with_reducible first|apply c_seq|apply c_region|apply l_nil|apply q_then)|((with_reducible apply l_yes);(iterate 4 exact rfl);first|exact rfl|assumption)|((with_reducible apply l_no);(iterate 4 exact rfl);(first|exact rfl|assumption);exact rfl)|((with_reducible apply l_undef);(iterate 5 exact rfl))|((with_reducible apply l_no0);(iterate 4 exact rfl);(first|exact rfl|assumption))|((with_reducible apply l_undef0);(iterate 4 exact rfl))|((with_reducible apply l_pick1);exact rfl;(first|exact rfl|assumption);exact rfl;exact rfl)|((with_reducible apply l_pick2);exact rfl;(first|exact rfl|assumption);exact rfl;exact rfl)|(with_reducible first|apply c_skip|apply c_block|apply c_exit|apply c_ret|apply q_then_exit|apply q_then_ret|apply q_block|apply q_block_ret|apply q_block_exit)|((with_reducible apply q_block_other);exact rfl));(repeat (first|((with_reducible apply l_pureN tabOk);(iterate 3 exact rfl))|((with_reducible apply l_load);exact rfl;exact zLd;exact rfl)|((with_reducible apply l_ix tabOk);(iterate 3 exact rfl);(first|exact rfl|assumption|exact Int.toNat_of_nonneg (by omega));(first|omega|(simp only [List.length_map,List.length_cons,List.length_nil,List.length_append];omega));exact rfl)|((with_reducible apply l_add);exact rfl;exact rfl;omega;omega;exact rfl)|((with_reducible apply l_sub);exact rfl;exact rfl;omega;omega;exact rfl)|((with_reducible apply l_mul);exact rfl;exact rfl;omega;omega;exact rfl)|((with_reducible apply l_pure tabOk);exact rfl;exact rfl)|((with_reducible apply l_eqb tabOk);(iterate 4 exact rfl))|((with_reducible apply l_neb tabOk);(iterate 4 exact rfl))|((with_reducible apply l_build tabOk);exact rfl;exact rfl;(first|exact (rfl:_=some [_])|exact (rfl:_=some [_,_])|exact (rfl:_=some [_,_,_])|exact (rfl:_=some [_,_,_,_])|exact (rfl:_=some [_,_,_,_,_])|exact (rfl:_=some [_,_,_,_,_,_])|exact (rfl:_=some [_,_,_,_,_,_,_])|exact rfl);exact rfl)|(with_reducible first|apply c_seq|apply c_region|apply l_nil|apply q_then)|((with_reducible apply l_yes);(iterate 4 exact rfl);first|exact rfl|assumption)|((with_reducible apply l_no);(iterate 4 exact rfl);(first|exact rfl|assumption);exact rfl)|((with_reducible apply l_undef);(iterate 5 exact rfl))|((with_reducible apply l_no0);(iterate 4 exact rfl);(first|exact rfl|assumption))|((with_reducible apply l_undef0);(iterate 4 exact rfl))|((with_reducible apply l_pick1);exact rfl;(first|exact rfl|assumption);exact rfl;exact rfl)|((with_reducible apply l_pick2);exact rfl;(first|exact rfl|assumption);exact rfl;exact rfl)|(with_reducible first|apply c_skip|apply c_block|apply c_exit|apply c_ret|apply q_then_exit|apply q_then_ret|apply q_block|apply q_block_ret|apply q_block_exit)|((with_reducible apply q_block_other);exact rfl)));exact k.o)|fail):p:=h ⟨k⟩
theorem yOB (k:q) (h:Wr q→p:=by first|(intro k;(first|((with_reducible apply l_pureN tabOk);(iterate 3 exact rfl))|((with_reducible apply l_load);exact rfl;exact zLd;exact rfl)|((with_reducible apply l_ix tabOk);(iterate 3 exact rfl);(first|exact rfl|assumption|exact Int.toNat_of_nonneg (by omega));(first|omega|(simp only [List.length_map,List.length_cons,List.length_nil,List.length_append];omega));exact rfl)|((with_reducible apply l_add);exact rfl;exact rfl;omega;omega;exact rfl)|((with_reducible apply l_sub);exact rfl;exact rfl;omega;omega;exact rfl)|((with_reducible apply l_mul);exact rfl;exact rfl;omega;omega;exact rfl)|((with_reducible apply l_pure tabOk);exact rfl;exact rfl)|((with_reducible apply l_eqb tabOk);(iterate 4 exact rfl))|((with_reducible apply l_neb tabOk);(iterate 4 exact rfl))|((with_reducible apply l_build tabOk);exact rfl;exact rfl;(first|exact (rfl:_=some [_])|exact (rfl:_=some [_,_])|exact (rfl:_=some [_,_,_])|exact (rfl:_=some [_,_,_,_])|exact (rfl:_=some [_,_,_,_,_])|exact (rfl:_=some [_,_,_,_,_,_])|exact (rfl:_=some [_,_,_,_,_,_,_])|exact rfl);exact rfl)|(with_reducible first|apply c_seq|apply c_region|apply l_nil|apply q_then)|((with_reducible apply l_yes);(iterate 4 exact rfl);first|exact rfl|assumption)|((with_reducible apply l_no);(iterate 4 exact rfl);(first|exact rfl|assumption);exact rfl)|((with_reducible apply l_undef);(iterate 5 exact rfl))|((with_reducible apply l_no0);(iterate 4 exact rfl);(first|exact rfl|assumption))|((with_reducible apply l_undef0);(iterate 4 exact rfl))|((with_reducible apply l_pick1);exact rfl;(first|exact rfl|assumption);exact rfl;exact rfl)|((with_reducible apply l_pick2);exact rfl;(first|exact rfl|assumption);exact rfl;exact rfl));(repeat (first|((with_reducible apply l_pureN tabOk);(iterate 3 exact rfl))|((with_reducible apply l_load);exact rfl;exact zLd;exact rfl)|((with_reducible apply l_ix tabOk);(iterate 3 exact rfl);(first|exact rfl|assumption|exact Int.toNat_of_nonneg (by omega));(first|omega|(simp only [List.length_map,List.length_cons,List.length_nil,List.length_append];omega));exact rfl)|((with_reducible apply l_add);exact rfl;exact rfl;omega;omega;exact rfl)|((with_reducible apply l_sub);exact rfl;exact rfl;omega;omega;exact rfl)|((with_reducible apply l_mul);exact rfl;exact rfl;omega;omega;exact rfl)|((with_reducible apply l_pure tabOk);exact rfl;exact rfl)|((with_reducible apply l_eqb tabOk);(iterate 4 exact rfl))|((with_reducible apply l_neb tabOk);(iterate 4 exact rfl))|((with_reducible apply l_build tabOk);exact rfl;exact rfl;(first|exact (rfl:_=some [_])|exact (rfl:_=some [_,_])|exact (rfl:_=some [_,_,_])|exact (rfl:_=some [_,_,_,_])|exact (rfl:_=some [_,_,_,_,_])|exact (rfl:_=some [_,_,_,_,_,_])|exact (rfl:_=some [_,_,_,_,_,_,_])|exact rfl);exact rfl)|(with_reducible first|apply c_seq|apply c_region|apply l_nil|apply q_then)|((with_reducible apply l_yes);(iterate 4 exact rfl);first|exact rfl|assumption)|((with_reducible apply l_no);(iterate 4 exact rfl);(first|exact rfl|assumption);exact rfl)|((with_reducible apply l_undef);(iterate 5 exact rfl))|((with_reducible apply l_no0);(iterate 4 exact rfl);(first|exact rfl|assumption))|((with_reducible apply l_undef0);(iterate 4 exact rfl))|((with_reducible apply l_pick1);exact rfl;(first|exact rfl|assumption);exact rfl;exact rfl)|((with_reducible apply l_pick2);exact rfl;(first|exact rfl|assumption);exact rfl;exact rfl)));exact k.o)|fail):p:=h ⟨k⟩
theorem yM (k:q) (h:Wr q→p:=by first|(intro k;first|((with_reducible apply l_box hS);(iterate 3 exact rfl);exact k.o)|((with_reducible apply l_alloc hS tabOk);(iterate 3 exact rfl);exact k.o)|((with_reducible apply l_bslice hS tabOk);(iterate 7 exact rfl);exact k.o))|fail):p:=h ⟨k⟩
theorem yN (k:q) (h:Wr q→p:=by first|(intro k;first|((with_reducible apply l_storeX hS tabOk (i:=0));(iterate 8 exact rfl);(first|exact (rfl:_=[_])|exact (rfl:_=[_,_])|exact (rfl:_=[_,_,_])|exact (rfl:_=[_,_,_,_])|exact (rfl:_=[_,_,_,_,_])|exact (rfl:_=[_,_,_,_,_,_])|exact (rfl:_=[_,_,_,_,_,_,_])|exact rfl);exact (rfl:_=_::_);exact k.o)|((with_reducible apply l_storeX hS tabOk (i:=1));(iterate 8 exact rfl);(first|exact (rfl:_=[_])|exact (rfl:_=[_,_])|exact (rfl:_=[_,_,_])|exact (rfl:_=[_,_,_,_])|exact (rfl:_=[_,_,_,_,_])|exact (rfl:_=[_,_,_,_,_,_])|exact (rfl:_=[_,_,_,_,_,_,_])|exact rfl);exact (rfl:_=_::_::_);exact k.o)|((with_reducible apply l_storeX hS tabOk (i:=2));(iterate 8 exact rfl);(first|exact (rfl:_=[_])|exact (rfl:_=[_,_])|exact (rfl:_=[_,_,_])|exact (rfl:_=[_,_,_,_])|exact (rfl:_=[_,_,_,_,_])|exact (rfl:_=[_,_,_,_,_,_])|exact (rfl:_=[_,_,_,_,_,_,_])|exact rfl);exact (rfl:_=_::_::_::_);exact k.o)|((with_reducible apply l_storeX hS tabOk (i:=3));(iterate 8 exact rfl);(first|exact (rfl:_=[_])|exact (rfl:_=[_,_])|exact (rfl:_=[_,_,_])|exact (rfl:_=[_,_,_,_])|exact (rfl:_=[_,_,_,_,_])|exact (rfl:_=[_,_,_,_,_,_])|exact (rfl:_=[_,_,_,_,_,_,_])|exact rfl);exact (rfl:_=_::_::_::_::_);exact k.o)|((with_reducible apply l_storeX hS tabOk (i:=4));(iterate 8 exact rfl);(first|exact (rfl:_=[_])|exact (rfl:_=[_,_])|exact (rfl:_=[_,_,_])|exact (rfl:_=[_,_,_,_])|exact (rfl:_=[_,_,_,_,_])|exact (rfl:_=[_,_,_,_,_,_])|exact (rfl:_=[_,_,_,_,_,_,_])|exact rfl);exact (rfl:_=_::_::_::_::_::_);exact k.o))|fail):p:=h ⟨k⟩
theorem yS (k:q) (l:r) (h:Wr q→Wr r→p:=by first|(intro k l;first|((with_reducible apply l_partd);(iterate 3 exact rfl);exact k.o;exact l.o)|((with_reducible apply l_partn);(iterate 3 exact rfl);exact k.o;exact l.o)|((with_reducible apply l_partp);(iterate 3 exact rfl);exact k.o;exact l.o)|((with_reducible apply c_ifd);exact rfl;exact k.o;exact l.o)|((with_reducible apply c_ifn);exact rfl;exact k.o;exact l.o)|((with_reducible apply c_ifp);exact rfl;exact k.o;exact l.o))|fail):p:=h ⟨k⟩ ⟨l⟩
/-! calls -/
theorem yL (k:q) (h:Wr q→p:=by first|(intro k;(with_reducible apply l_callE);(iterate 3 exact rfl);exact k.o)|fail):p:=h ⟨k⟩
theorem yC (k:q) (h:Wr q→p:=by first|(intro k;(with_reducible apply l_crb hS);(iterate 3 exact rfl);exact k.o)|fail):p:=h ⟨k⟩
/-! regions that draw -/
theorem yD (k:q) (h:Wr q→p:=by first|(intro k;(with_reducible apply c_drawAll _ _ _ (by kernel_rfl) (by kernel_rfl) hS);exact k.o)|fail):p:=h ⟨k⟩
theorem yW {m:Nat} (C:Nn m) (k:q) (h:Nn m→Wr q→p:=by first|(intro C k;(with_reducible apply c_drawC C _ _ _ (by kernel_rfl) (by kernel_rfl) hS);(simp only [List.take_succ_cons,List.take_zero,List.drop_succ_cons,List.drop_zero]);exact k.o)|fail):p:=h C ⟨k⟩
theorem yP (k:q) (h:Wr q→p:=by first|(intro k;(first|((with_reducible apply d_pureN tabOk);(iterate 3 exact rfl))|((with_reducible apply d_add);exact rfl;exact rfl;omega;omega;exact rfl)|((with_reducible apply d_sub);exact rfl;exact rfl;omega;omega;exact rfl)|((with_reducible apply d_mul);exact rfl;exact rfl;omega;omega;exact rfl)|((with_reducible apply d_pure tabOk);exact rfl;exact rfl)|((with_reducible apply d_eqb tabOk);(iterate 4 exact rfl))|((with_reducible apply d_neb tabOk);(iterate 4 exact rfl))|((with_reducible apply d_load);exact rfl;(intro wd hS;replace hS:St _ _ wd _:=hS;exact zLd);exact rfl)|((with_reducible apply d_ix tabOk);(iterate 3 exact rfl);(first|exact rfl|assumption|exact Int.toNat_of_nonneg (by omega));(first|omega|(simp only [List.length_map,List.length_cons,List.length_nil,List.length_append];omega));exact rfl)|((with_reducible apply d_build tabOk);exact rfl;exact rfl;(first|exact (rfl:_=some [_])|exact (rfl:_=some [_,_])|exact (rfl:_=some [_,_,_])|exact (rfl:_=some [_,_,_,_])|exact (rfl:_=some [_,_,_,_,_])|exact (rfl:_=some [_,_,_,_,_,_])|exact (rfl:_=some [_,_,_,_,_,_,_])|exact rfl);exact rfl)|((with_reducible apply d_yes);(iterate 4 exact rfl);first|exact rfl|assumption)|((with_reducible apply d_no);(iterate 4 exact rfl);(first|exact rfl|assumption);exact rfl)|((with_reducible apply d_undef);(iterate 5 exact rfl))|((with_reducible apply d_pick1);exact rfl;(first|exact rfl|assumption);exact rfl;exact rfl)|((with_reducible apply d_pick2);exact rfl;(first|exact rfl|assumption);exact rfl;exact rfl));(repeat (first|((with_reducible apply d_pureN tabOk);(iterate 3 exact rfl))|((with_reducible apply d_add);exact rfl;exact rfl;omega;omega;exact rfl)|((with_reducible apply d_sub);exact rfl;exact rfl;omega;omega;exact rfl)|((with_reducible apply d_mul);exact rfl;exact rfl;omega;omega;exact rfl)|((with_reducible apply d_pure tabOk);exact rfl;exact rfl)|((with_reducible apply d_eqb tabOk);(iterate 4 exact rfl))|((with_reducible apply d_neb tabOk);(iterate 4 exact rfl))|((with_reducible apply d_load);exact rfl;(intro wd hS;replace hS:St _ _ wd _:=hS;exact zLd);exact rfl)|((with_reducible apply d_ix tabOk);(iterate 3 exact rfl);(first|exact rfl|assumption|exact Int.toNat_of_nonneg (by omega));(first|omega|(simp only [List.length_map,List.length_cons,List.length_nil,List.length_append];omega));exact rfl)|((with_reducible apply d_build tabOk);exact rfl;exact rfl;(first|exact (rfl:_=some [_])|exact (rfl:_=some [_,_])|exact (rfl:_=some [_,_,_])|exact (rfl:_=some [_,_,_,_])|exact (rfl:_=some [_,_,_,_,_])|exact (rfl:_=some [_,_,_,_,_,_])|exact (rfl:_=some [_,_,_,_,_,_,_])|exact rfl);exact rfl)|((with_reducible apply d_yes);(iterate 4 exact rfl);first|exact rfl|assumption)|((with_reducible apply d_no);(iterate 4 exact rfl);(first|exact rfl|assumption);exact rfl)|((with_reducible apply d_undef);(iterate 5 exact rfl))|((with_reducible apply d_pick1);exact rfl;(first|exact rfl|assumption);exact rfl;exact rfl)|((with_reducible apply d_pick2);exact rfl;(first|exact rfl|assumption);exact rfl;exact rfl)));exact k.o)|fail):p:=h ⟨k⟩
theorem yQ (k:q) (l:r) (h:Wr q→Wr r→p:=by first|(intro k l;first|((with_reducible apply d_partd);(iterate 3 exact rfl);exact k.o;exact l.o)|((with_reducible apply d_partn);(iterate 3 exact rfl);exact k.o;exact l.o)|((with_reducible apply d_partp);(iterate 3 exact rfl);exact k.o;exact l.o))|fail):p:=h ⟨k⟩ ⟨l⟩
theorem yZ (k:q) (h:Wr q→p:=by first|(intro k;(with_reducible apply d_nil);exact k.o)|fail):p:=h ⟨k⟩
theorem yF (k:q) (h:Wr q→p:=by first|(intro k;(with_reducible apply d_callE);(iterate 3 exact rfl);exact k.o)|fail):p:=h ⟨k⟩
/-! equality of structs -/
theorem yX (C:c) (k:q) (h:c→Wr q→p:=by first|(intro C k;first|((with_reducible apply l_eqs);exact rfl;exact rfl;exact C;exact rfl;exact k.o)|((with_reducible apply l_nes);exact rfl;exact rfl;exact C;exact rfl;exact k.o)|((with_reducible apply d_eqs);exact rfl;exact rfl;exact C;exact rfl;exact k.o)|((with_reducible apply d_nes);exact rfl;exact rfl;exact C;exact rfl;exact k.o))|fail):p:=h C ⟨k⟩
/-! the ways out -/
theorem yR0 (k:q) (h:Wr q→p:=by first|(intro k;(apply q_ret0);(repeat (first|exact ResL.nil|(apply ResL.tmp;exact rfl)|(apply ResL.cell;exact rfl;exact zLd)));exact k.o)|fail):p:=h ⟨k⟩
theorem yR1 (k:q) (h:Wr q→p:=by first|(intro k;(apply q_ret1);(repeat (first|exact ResL.nil|(apply ResL.tmp;exact rfl)|(apply ResL.cell;exact rfl;exact zLd)));exact k.o)|fail):p:=h ⟨k⟩
theorem yR2 (k:q) (h:Wr q→p:=by first|(intro k;(apply q_ret2);(repeat (first|exact ResL.nil|(apply ResL.tmp;exact rfl)|(apply ResL.cell;exact rfl;exact zLd)));exact k.o)|fail):p:=h ⟨k⟩
theorem yR3 (k:q) (h:Wr q→p:=by first|(intro k;(apply q_ret3);(repeat (first|exact ResL.nil|(apply ResL.tmp;exact rfl)|(apply ResL.cell;exact rfl;exact zLd)));exact k.o)|fail):p:=h ⟨k⟩
theorem yV0 (k:q) (h:Wr q→p:=by first|(intro k;(apply q_end0);(repeat (first|exact ResL.nil|(apply ResL.tmp;exact rfl)|(apply ResL.cell;exact rfl;exact zLd)));exact k.o)|fail):p:=h ⟨k⟩
/-! operations taken in whatever order -/
theorem xP {i:Nat} (C:Nn i) (k:q∧r) (h:Nn i→Wr q→Wr r→p:=by first|(intro C j k;(with_reducible apply t_pure C tabOk);exact rfl;kernel_rfl;kernel_rfl;kernel_rfl;exact rfl;exact (fun _ _ _ h=>h);exact j.o;exact rfl;exact rfl;exact k.o)|fail):p:=h C ⟨k.1⟩ ⟨k.2⟩
theorem xL {i:Nat} (C:Nn i) (k:q∧r) (h:Nn i→Wr q→Wr r→p:=by first|(intro C j k;(with_reducible apply t_takeL C);exact rfl;kernel_rfl;kernel_rfl;kernel_rfl;kernel_rfl;exact rfl;exact rfl;exact (fun _ _ _ h=>h);exact j.o;exact rfl;(intro wd hS;replace hS:St _ _ wd _:=hS;exact zLd);exact rfl;exact k.o)|fail):p:=h C ⟨k.1⟩ ⟨k.2⟩
theorem xB {i:Nat} (C:Nn i) (k:q∧r) (h:Nn i→Wr q→Wr r→p:=by first|(intro C j k;(with_reducible apply t_build C tabOk);exact rfl;kernel_rfl;kernel_rfl;kernel_rfl;exact rfl;exact (fun _ _ _ _ h=>h);exact j.o;exact rfl;exact rfl;(first|exact (rfl:_=some [_])|exact (rfl:_=some [_,_])|exact (rfl:_=some [_,_,_])|exact (rfl:_=some [_,_,_,_])|exact (rfl:_=some [_,_,_,_,_])|exact (rfl:_=some [_,_,_,_,_,_])|exact (rfl:_=some [_,_,_,_,_,_,_])|exact rfl);exact rfl;exact k.o)|fail):p:=h C ⟨k.1⟩ ⟨k.2⟩
theorem xA {i:Nat} (C:Nn i) (k:q∧r) (h:Nn i→Wr q→Wr r→p:=by first|(intro C j k;(with_reducible apply a_take C tabOk);exact rfl;kernel_rfl;kernel_rfl;kernel_rfl;exact (fun _ _ _ h=>h);exact j.o;exact rfl;exact rfl;exact k.o)|fail):p:=h C ⟨k.1⟩ ⟨k.2⟩
theorem xM {i:Nat} (C:Nn i) (k:q∧r) (h:Nn i→Wr q→Wr r→p:=by first|(intro C j k;(with_reducible apply a_takeL C);exact rfl;kernel_rfl;kernel_rfl;kernel_rfl;exact (fun _ _ _ h=>h);exact j.o;exact rfl;(intro wd hS;replace hS:St _ _ wd _:=hS;exact zLd);exact rfl;exact k.o)|fail):p:=h C ⟨k.1⟩ ⟨k.2⟩
theorem xI {i:Nat} (C:Nn i) (k:q∧r) (h:Nn i→Wr q→Wr r→p:=by first|(intro C j k;(with_reducible apply a_ix C tabOk);exact rfl;kernel_rfl;kernel_rfl;kernel_rfl;exact (fun _ _ _ _ h=>h);exact j.o;(iterate 3 exact rfl);(first|exact rfl|assumption|exact Int.toNat_of_nonneg (by omega));(first|omega|(simp only [List.length_map,List.length_cons,List.length_nil,List.length_append];omega));exact rfl;exact k.o)|fail):p:=h C ⟨k.1⟩ ⟨k.2⟩
theorem xD {i:Nat} (C:Nn i) (k:q∧r) (h:Nn i→Wr q→Wr r→p:=by first|(intro C j k;(with_reducible apply a_build C tabOk);exact rfl;kernel_rfl;kernel_rfl;kernel_rfl;exact (fun _ _ _ _ h=>h);exact j.o;exact rfl;exact rfl;(first|exact (rfl:_=some [_])|exact (rfl:_=some [_,_])|exact (rfl:_=some [_,_,_])|exact (rfl:_=some [_,_,_,_])|exact (rfl:_=some [_,_,_,_,_])|exact (rfl:_=some [_,_,_,_,_,_])|exact (rfl:_=some [_,_,_,_,_,_,_])|exact rfl);exact rfl;exact k.o)|fail):p:=h C ⟨k.1⟩ ⟨k.2⟩
theorem xX {i:Nat} (C:Nn i) (k:q∧r) (h:Nn i→Wr q→Wr r→p:=by first|(intro C j k;first|((with_reducible apply a_take C tabOk);exact rfl;kernel_rfl;kernel_rfl;kernel_rfl;exact (fun _ _ _ h=>h);exact j.o;exact rfl;exact rfl;exact k.o)|((with_reducible apply a_takeL C);exact rfl;kernel_rfl;kernel_rfl;kernel_rfl;exact (fun _ _ _ h=>h);exact j.o;exact rfl;(intro wd hS;replace hS:St _ _ wd _:=hS;exact zLd);exact rfl;exact k.o)|((with_reducible apply a_takeLG C);exact rfl;kernel_rfl;kernel_rfl;kernel_rfl;exact (fun _ _ _ h=>h);exact j.o;(iterate 4 exact rfl);(first|exact rfl|assumption);exact rfl;(intro wd hS;replace hS:St _ _ wd _:=hS;exact zLd);exact rfl;exact k.o)|((with_reducible apply a_takeG C);exact rfl;kernel_rfl;kernel_rfl;kernel_rfl;exact (fun _ _ _ h=>h);exact j.o;(iterate 4 exact rfl);(first|exact rfl|assumption);(first|exact (fun a ha=>pureOp_runs tabOk ha rfl)|exact r_pick1 rfl (by first|exact rfl|assumption) rfl|exact r_pick2 rfl (by first|exact rfl|assumption) rfl);exact rfl;exact k.o)|((with_reducible apply a_takeR C);exact rfl;kernel_rfl;kernel_rfl;kernel_rfl;exact (fun _ _ _ h=>h);exact j.o;(first|exact (fun a ha=>pureOp_runs tabOk ha rfl)|exact r_pick1 rfl (by first|exact rfl|assumption) rfl|exact r_pick2 rfl (by first|exact rfl|assumption) rfl);exact rfl;exact k.o))|fail):p:=h C ⟨k.1⟩ ⟨k.2⟩
theorem xK {i:Nat} (C:Nn i) (k:q∧r) (h:Nn i→Wr q→Wr r→p:=by first|(intro C j k;(with_reducible apply a_skipG C);exact rfl;kernel_rfl;kernel_rfl;kernel_rfl;exact (fun _ _ _ h=>h);exact j.o;(iterate 4 exact rfl);(first|exact rfl|assumption);exact rfl;exact k.o)|fail):p:=h C ⟨k.1⟩ ⟨k.2⟩
/-! loads from a named place -/
theorem yC1 (k:q) (h:Wr q→p:=by first|(intro k;first|((with_reducible apply l_loadSc tabOk);(iterate 3 exact rfl);exact k.o)|((with_reducible apply l_loadSl tabOk);(iterate 3 exact rfl);exact k.o))|fail):p:=h ⟨k⟩
theorem yC2 (k:q) (h:Wr q→p:=by first|(intro k;(with_reducible apply l_loadSt tabOk);(iterate 3 exact rfl);exact k.o)|fail):p:=h ⟨k⟩
/-! stores into a block -/
theorem yK1 (k:q) (h:Wr q→p:=by first|(intro k;((with_reducible apply l_storeX hS tabOk (i:=1));(iterate 8 exact rfl);(first|exact (rfl:_=[_])|exact (rfl:_=[_,_])|exact (rfl:_=[_,_,_])|exact (rfl:_=[_,_,_,_])|exact (rfl:_=[_,_,_,_,_])|exact (rfl:_=[_,_,_,_,_,_])|exact (rfl:_=[_,_,_,_,_,_,_])|exact rfl);exact (rfl:_=_::_::_);exact k.o))|fail):p:=h ⟨k⟩
theorem yK2 (k:q) (h:Wr q→p:=by first|(intro k;((with_reducible apply l_storeX hS tabOk (i:=2));(iterate 8 exact rfl);(first|exact (rfl:_=[_])|exact (rfl:_=[_,_])|exact (rfl:_=[_,_,_])|exact (rfl:_=[_,_,_,_])|exact (rfl:_=[_,_,_,_,_])|exact (rfl:_=[_,_,_,_,_,_])|exact (rfl:_=[_,_,_,_,_,_,_])|exact rfl);exact (rfl:_=_::_::_::_);exact k.o))|fail):p:=h ⟨k⟩
theorem yK5 (k:q) (h:Wr q→p:=by first|(intro k;((with_reducible apply l_storeX hS tabOk (i:=5));(iterate 8 exact rfl);(first|exact (rfl:_=[_])|exact (rfl:_=[_,_])|exact (rfl:_=[_,_,_])|exact (rfl:_=[_,_,_,_])|exact (rfl:_=[_,_,_,_,_])|exact (rfl:_=[_,_,_,_,_,_])|exact (rfl:_=[_,_,_,_,_,_,_])|exact rfl);exact (rfl:_=_::_::_::_::_::_::_);exact k.o))|fail):p:=h ⟨k⟩
/-! stores into rows; rows grown -/
theorem yT0 (k:q) (h:Wr q→p:=by first|(intro k;first|((with_reducible apply l_storeR0X hS tabOk (i:=0));(iterate 4 exact rfl);assumption;(iterate 5 exact rfl);exact (rfl:_=_::_);exact k.o)|((with_reducible apply l_storeRjX hS tabOk (i:=0));(iterate 4 exact rfl);assumption;(iterate 5 exact rfl);exact (rfl:_=_::_);exact k.o))|fail):p:=h ⟨k⟩
theorem yT1 (k:q) (h:Wr q→p:=by first|(intro k;first|((with_reducible apply l_storeR0X hS tabOk (i:=1));(iterate 4 exact rfl);assumption;(iterate 5 exact rfl);exact (rfl:_=_::_::_);exact k.o)|((with_reducible apply l_storeRjX hS tabOk (i:=1));(iterate 4 exact rfl);assumption;(iterate 5 exact rfl);exact (rfl:_=_::_::_);exact k.o))|fail):p:=h ⟨k⟩
theorem yT2 (k:q) (h:Wr q→p:=by first|(intro k;first|((with_reducible apply l_storeR0X hS tabOk (i:=2));(iterate 4 exact rfl);assumption;(iterate 5 exact rfl);exact (rfl:_=_::_::_::_);exact k.o)|((with_reducible apply l_storeRjX hS tabOk (i:=2));(iterate 4 exact rfl);assumption;(iterate 5 exact rfl);exact (rfl:_=_::_::_::_);exact k.o))|fail):p:=h ⟨k⟩
theorem yT3 (k:q) (h:Wr q→p:=by first|(intro k;first|((with_reducible apply l_storeR0X hS tabOk (i:=3));(iterate 4 exact rfl);assumption;(iterate 5 exact rfl);exact (rfl:_=_::_::_::_::_);exact k.o)|((with_reducible apply l_storeRjX hS tabOk (i:=3));(iterate 4 exact rfl);assumption;(iterate 5 exact rfl);exact (rfl:_=_::_::_::_::_);exact k.o))|fail):p:=h ⟨k⟩
theorem yT4 (k:q) (h:Wr q→p:=by first|(intro k;first|((with_reducible apply l_storeR0X hS tabOk (i:=4));(iterate 4 exact rfl);assumption;(iterate 5 exact rfl);exact (rfl:_=_::_::_::_::_::_);exact k.o)|((with_reducible apply l_storeRjX hS tabOk (i:=4));(iterate 4 exact rfl);assumption;(iterate 5 exact rfl);exact (rfl:_=_::_::_::_::_::_);exact k.o))|fail):p:=h ⟨k⟩
theorem yT5 (k:q) (h:Wr q→p:=by first|(intro k;first|((with_reducible apply l_storeR0X hS tabOk (i:=5));(iterate 4 exact rfl);assumption;(iterate 5 exact rfl);exact (rfl:_=_::_::_::_::_::_::_);exact k.o)|((with_reducible apply l_storeRjX hS tabOk (i:=5));(iterate 4 exact rfl);assumption;(iterate 5 exact rfl);exact (rfl:_=_::_::_::_::_::_::_);exact k.o))|fail):p:=h ⟨k⟩
theorem yT6 (k:q) (h:Wr q→p:=by first|(intro k;first|((with_reducible apply l_storeR0X hS tabOk (i:=6));(iterate 4 exact rfl);assumption;(iterate 5 exact rfl);exact (rfl:_=_::_::_::_::_::_::_::_);exact k.o)|((with_reducible apply l_storeRjX hS tabOk (i:=6));(iterate 4 exact rfl);assumption;(iterate 5 exact rfl);exact (rfl:_=_::_::_::_::_::_::_::_);exact k.o))|fail):p:=h ⟨k⟩
theorem yA0 (C:c) (k:q) (h:c→Wr q→p:=by first|(intro C k;first|((with_reducible apply l_appendX hS tabOk 0);(iterate 4 exact rfl);exact C;exact rfl;(first|omega|(simp only [List.length_map,List.length_cons,List.length_nil,List.length_append];omega));exact rfl;(intro _ _;exact (rfl:_=_::_));exact k.o)|((with_reducible apply l_appendSlX hS tabOk 0);(iterate 4 exact rfl);exact C;(first|omega|(simp only [List.length_map,List.length_cons,List.length_nil,List.length_append];omega));exact rfl;(intro _ _;exact (rfl:_=_::_));exact k.o))|fail):p:=h C ⟨k⟩
theorem yA2 (C:c) (k:q) (h:c→Wr q→p:=by first|(intro C k;first|((with_reducible apply l_appendX hS tabOk 2);(iterate 4 exact rfl);exact C;exact rfl;(first|omega|(simp only [List.length_map,List.length_cons,List.length_nil,List.length_append];omega));exact rfl;(intro _ _;exact (rfl:_=_::_::_::_));exact k.o)|((with_reducible apply l_appendSlX hS tabOk 2);(iterate 4 exact rfl);exact C;(first|omega|(simp only [List.length_map,List.length_cons,List.length_nil,List.length_append];omega));exact rfl;(intro _ _;exact (rfl:_=_::_::_::_));exact k.o))|fail):p:=h C ⟨k⟩
theorem yA3 (C:c) (k:q) (h:c→Wr q→p:=by first|(intro C k;first|((with_reducible apply l_appendX hS tabOk 3);(iterate 4 exact rfl);exact C;exact rfl;(first|omega|(simp only [List.length_map,List.length_cons,List.length_nil,List.length_append];omega));exact rfl;(intro _ _;exact (rfl:_=_::_::_::_::_));exact k.o)|((with_reducible apply l_appendSlX hS tabOk 3);(iterate 4 exact rfl);exact C;(first|omega|(simp only [List.length_map,List.length_cons,List.length_nil,List.length_append];omega));exact rfl;(intro _ _;exact (rfl:_=_::_::_::_::_));exact k.o))|fail):p:=h C ⟨k⟩
end
section
variable {P:Program} {n:Nat} {ds:List Deferred} {E:Fr} {w:World} {Q:Exit→Act→World→Prop} {ops:Array Oper} {rest:List Oper} {d:Nat} {ty:TypeId} {pos:String} {after:Array Edge} {F:Nat→Prop} {w0:World} {Γ Γ':List Asr} {T:Tab}
def isAr:Op→Bool
 |.binOp .add ..|.binOp .sub ..|.binOp .mul ..=>true
 |_=>false
theorem l_pureN (hT:TabOk P T) {op:Op} {v:Value} (_ho:isAr op=false) (h:pureOp T E op=some v) (hd:Nat.blt d n=true) (k:WL P ops Q rest n ds ((d,v)::E) w):WL P ops Q (⟨some d,op,ty,pos,after,none⟩::rest) n ds E w:=l_pure hT h hd k
theorem d_pureN {C:World→Prop} {K:Act→Prop} (hT:TabOk P T) {op:Op} {v:Value} (_ho:isAr op=false) (h:pureOp T E op=some v) (hd:Nat.blt d n=true) (k:WD P ops C K rest n ds ((d,v)::E)):WD P ops C K (⟨some d,op,ty,pos,after,none⟩::rest) n ds E:=d_pure hT h hd k
theorem l_storeX (hS:St F w0 w Γ) (hT:TabOk P T) {t:TypeId} {ti:TI} {x y:Operand} {g j i:Nat} {v:Value} {L c L':List Value} (ht:T.get t=some ti) (hx:E.ev x=some (.pointer (some ⟨g,j,none⟩))) (hy:E.ev y=some v) (hi:Γ[i]?=some (.blk g L)) (hc:celL v=some c)
  (hsz:Nat.beq c.length ti.size=true) (hk:Nat.ble (j + ti.size) L.length=true) (h1:c.all (·.oneCell')=true) (hL:setL L j c=L') (hΓ:Γ.set i (.blk g L')=Γ') (k:∀ w',St F w0 w' Γ'→WL P ops Q rest n ds E w'):WL P ops Q (⟨none,.store t x y,ty,pos,after,none⟩::rest) n ds E w :=
 l_store hS hT ht hx hy hi hc hsz hk h1 hL (by rw [hΓ];exact k)
theorem l_storeR0X (hS:St F w0 w Γ) (hT:TabOk P T) {t:TypeId} {ti:TI} {x y:Operand} {g kk i e sz m cap:Nat} {v:Value} {rows:List (List Value)} {r c r':List Value} (ht:T.get t=some ti) (hx:E.ev x=some (.pointer (some ⟨g,0 + kk * sz,none⟩))) (hy:E.ev y=some v) (hi:Γ[i]?=some (.row e sz (.slice (some ⟨g,0,none⟩) m cap) rows))
  (hr:rows[kk]?=some r) (hc:celL v=some c) (hsz:Nat.beq c.length ti.size=true) (hk:Nat.ble (0 + ti.size) sz=true) (h1:c.all (·.oneCell')=true) (hL:setL r 0 c=r') (hΓ:Γ.set i (.row e sz (.slice (some ⟨g,0,none⟩) m cap) (rows.set kk r'))=Γ') (k:∀ w',St F w0 w' Γ'→WL P ops Q rest n ds E w'):WL P ops Q (⟨none,.store t x y,ty,pos,after,none⟩::rest) n ds E w :=
 l_storeR0 hS hT ht hx hy hi hr hc hsz hk h1 hL (by rw [hΓ];exact k)
theorem l_storeRjX (hS:St F w0 w Γ) (hT:TabOk P T) {t:TypeId} {ti:TI} {x y:Operand} {g kk j i e sz m cap:Nat} {v:Value} {rows:List (List Value)} {r c r':List Value} (ht:T.get t=some ti) (hx:E.ev x=some (.pointer (some ⟨g,0 + kk * sz + j,none⟩))) (hy:E.ev y=some v) (hi:Γ[i]?=some (.row e sz (.slice (some ⟨g,0,none⟩) m cap) rows))
  (hr:rows[kk]?=some r) (hc:celL v=some c) (hsz:Nat.beq c.length ti.size=true) (hk:Nat.ble (j + ti.size) sz=true) (h1:c.all (·.oneCell')=true) (hL:setL r j c=r') (hΓ:Γ.set i (.row e sz (.slice (some ⟨g,0,none⟩) m cap) (rows.set kk r'))=Γ') (k:∀ w',St F w0 w' Γ'→WL P ops Q rest n ds E w'):WL P ops Q (⟨none,.store t x y,ty,pos,after,none⟩::rest) n ds E w :=
 l_storeRj hS hT ht hx hy hi hr hc hsz hk h1 hL (by rw [hΓ];exact k)
theorem l_appendX (hS:St F w0 w Γ) (hT:TabOk P T) {t e sz eb m c b off:Nat} (i:Nat) {ag:Bool} {ez:List Value} {x y:Operand} {v:Value} {rows news:List (List Value)} {Γf:Option Addr→Nat→List Asr} (ht:T.get t=some (.sl e sz eb ag ez)) (hx:E.ev x=some v) (hi:Γ[i]?=some (.row e sz v rows)) (hy:E.ev y=some (.slice (some ⟨b,off,none⟩) m c))
  (hn:RoAt nF w b off sz news) (hm:news.length=m) (hbig:(rows.length + m) * (eb + 1)≤140737488355328) (hd:Nat.blt d n=true) (hΓ:∀ p cap,Γ.set i (.row e sz (.slice p (rows.length + m) cap) (rows++news))=Γf p cap) (k:∀ p cap w',St F w0 w' (Γf p cap)→WL P ops Q rest n ds ((d,.slice p (rows.length + m) cap)::E) w'):WL P ops Q (⟨some d,.call { callee:=.builtin .append,args:=#[x,y],argTypes:=#[t,t] },ty,pos,after,none⟩::rest) n ds E w :=
 l_append hS hT i ht hx hi hy hn hm hbig hd (fun p cap w' h=>k p cap w' (by rw [← hΓ];exact h))
theorem l_appendSlX (hS:St F w0 w Γ) (hT:TabOk P T) {t e sz eb:Nat} (i:Nat) {ag:Bool} {ez:List Value} {x y:Operand} {v u:Value} {rows news:List (List Value)} {Γf:Option Addr→Nat→List Asr} (ht:T.get t=some (.sl e sz eb ag ez)) (hx:E.ev x=some v) (hi:Γ[i]?=some (.row e sz v rows)) (hy:E.ev y=some u)
  (hn:Sl nF w sz u news) (hbig:(rows.length + news.length) * (eb + 1)≤140737488355328) (hd:Nat.blt d n=true) (hΓ:∀ p cap,Γ.set i (.row e sz (.slice p (rows.length + news.length) cap) (rows++news))=Γf p cap) (k:∀ p cap w',St F w0 w' (Γf p cap)→WL P ops Q rest n ds ((d,.slice p (rows.length + news.length) cap)::E) w'):WL P ops Q (⟨some d,.call { callee:=.builtin .append,args:=#[x,y],argTypes:=#[t,t] },ty,pos,after,none⟩::rest) n ds E w :=
 l_appendSl hS hT i ht hx hi hy hn hbig hd (fun p cap w' h=>k p cap w' (by rw [← hΓ];exact h))
theorem l_callE {f:FuncId} {x:Operand} {args:Array Operand} {ats:Array TypeId} {vs:List Value} {first caps:List Value} (hx:E.ev x=some (.func (.func f) first.toArray caps.toArray)) (hv:E.evs args.toList=some vs) (hd:Nat.blt d n=true) (k:∃ Φ,Fn P f (first++vs++caps) w Φ∧∀ v w',Φ v w'→WL P ops Q rest n ds ((d,v)::E) w') :
  WL P ops Q (⟨some d,.call { callee:=.value x,args:=args,argTypes:=ats },ty,pos,after,none⟩::rest) n ds E w:=k.elim fun _ h=>l_call hx hv h.1 hd h.2
theorem l_loadSc (hT:TabOk P T) {t:TypeId} {x:Operand} {p:Addr} {dd:TypeDesc} {s:Nat} {z:Value} (hx:E.ev x=some (.pointer (some p))) (ht:T.get t=some (.sc dd s z)) (hd:Nat.blt d n=true) (k:∃ v,w.cell? p=some v∧WL P ops Q rest n ds ((d,v)::E) w):WL P ops Q (⟨some d,.load t x,ty,pos,after,none⟩::rest) n ds E w:=k.elim fun _ h=>l_load hx (Loads.sc hT ht h.1) hd h.2
theorem l_loadSl (hT:TabOk P T) {t:TypeId} {x:Operand} {p:Addr} {el e b:Nat} {g:Bool} {z:List Value} (hx:E.ev x=some (.pointer (some p))) (ht:T.get t=some (.sl el e b g z)) (hd:Nat.blt d n=true) (k:∃ v,w.cell? p=some v∧WL P ops Q rest n ds ((d,v)::E) w):WL P ops Q (⟨some d,.load t x,ty,pos,after,none⟩::rest) n ds E w:=k.elim fun _ h=>l_load hx (Loads.sl hT ht h.1) hd h.2
theorem l_loadSt (hT:TabOk P T) {t:TypeId} {x:Operand} {g kk s:Nat} {fs:List (Nat×Nat×Bool)} {z:List Value} (hx:E.ev x=some (.pointer (some ⟨g,kk,none⟩))) (ht:T.get t=some (.st s fs z)) (hd:Nat.blt d n=true) (k:∃ L:List Value,w.rangeAt g kk L∧L.length=s∧WL P ops Q rest n ds ((d,.agg L.toArray)::E) w):WL P ops Q (⟨some d,.load t x,ty,pos,after,none⟩::rest) n ds E w:=k.elim fun _ h=>l_load hx (Loads.st hT ht h.1 h.2.1) hd h.2.2
theorem l_crb {f:FuncId} {x:Operand} {args:Array Operand} {ats:Array TypeId} {vs:List Value} {first caps:List Value} (hS:St F w0 w Γ) (hx:E.ev x=some (.func (.func f) first.toArray caps.toArray)) (hv:E.evs args.toList=some vs) (hd:Nat.blt d n=true) (k:∃ v,Fn P f (first++vs++caps) w (RBf v w)∧∀ w',St F w0 w' Γ→WL P ops Q rest n ds ((d,v)::E) w') :
  WL P ops Q (⟨some d,.call { callee:=.value x,args:=args,argTypes:=ats },ty,pos,after,none⟩::rest) n ds E w:=k.elim fun _ h=>l_call hx hv h.1 hd (by rintro _ w' ⟨rfl,h2⟩;exact h.2 w' (hS.trans h2))
theorem d_callE {K:Act→Prop} {f:FuncId} {x:Operand} {args:Array Operand} {ats:Array TypeId} {vs:List Value} {first caps:List Value} (hx:E.ev x=some (.func (.func f) first.toArray caps.toArray)) (hv:E.evs args.toList=some vs) (hd:Nat.blt d n=true)
  (k:∃ v,(∀ w,St F w0 w Γ→Fn P f (first++vs++caps) w (RBf v w))∧WD P ops (fun w'=>St F w0 w' Γ) K rest n ds ((d,v)::E)):WD P ops (fun w'=>St F w0 w' Γ) K (⟨some d,.call { callee:=.value x,args:=args,argTypes:=ats },ty,pos,after,none⟩::rest) n ds E:=k.elim fun _ h=>d_call hx hv h.1 hd h.2
theorem c_drawC {m:Nat} (_C:Nn m) (F:Nat→Prop) (w0:World) (Γ:List Asr) {id:Nat} {l:List Oper} (hm:P.follows .mixedOrders=true) (hB:Region.lexTailB .any l.toArray m=true) (hS:St F w0 w Γ)
  (h:WD P l.toArray (fun w'=>St F w0 w' Γ) (fun a'=>∀ w',St F w0 w' Γ→wpList P l.toArray Q (l.drop m) a' w') (l.take m) n ds E):WC P (.region id l.toArray true) Q n ds E w:=c_draw F w0 Γ m hm hB hS h
end
theorem yEn {P : Program} {f : FuncId} {fn : Func} {c : Code} {args : List Value} {w : World} {Φ : Value → World → Prop} {m : Nat} (h1 : P.funcs[f]? = some fn) (hm : fn.ntmps = m) (h : WC P c (bodyPost P fn (fun e w' => ∃ v, e = .returned v ∧ Φ v w')) m [] (argFr 0 args) w) (h2 : (fn.name == "runtime.NumGoroutine") = false := by kernel_rfl) (h3 : fn.body.isNone = false := by kernel_rfl) (hb : fn.body = some c := by exact rfl) (hl : Nat.ble args.length m = true := by exact rfl) : Fn P f args w Φ := fn_enter ⟨h1, h2, h3⟩ hb hm hl h
end Go.Proofs.Ytejnpppejalhfac
/- area.end, area.one, by the step calculus. -/
namespace Go.Proofs.Ytejnpppejalhfac
open Go.RowKit Go.Sort
end Go.Proofs.Ytejnpppejalhfac
/- area.joined, by the step calculus. -/
namespace Go.Proofs.Ytejnpppejalhfac
open Go.RowKit Go.Sort
theorem rise_ok {L:List Ar}:∀ {e:Int},RiseF e L→∀ (i:Nat) (a:Ar),L[i]?=some a→a.ok:=by
 induction L with
 |nil=>intro e _ i a h;simp at h
 |cons b L ih=>
  intro e h i a ha
  cases i with
  |zero=>simp at ha;subst ha;exact h.1
  |succ i=>exact ih h.2.2 i a (by simpa using ha)
end Go.Proofs.Ytejnpppejalhfac
/- The contract of area.cut. -/
namespace Go.Proofs.Ytejnpppejalhfac
open Go.RowKit Go.Sort
def RowsApart (v u:Value):Prop:=v.ownBlock=none∨v.ownBlock≠u.ownBlock
theorem RowsApart.symm {v u:Value} (h:RowsApart v u):RowsApart u v:=by
 unfold RowsApart at *
 cases hv:v.ownBlock <;> cases hu:u.ownBlock <;> simp_all
 omega
end Go.Proofs.Ytejnpppejalhfac
/- The contract of area.cut. -/
namespace Go.Proofs.Ytejnpppejalhfac
open Go.RowKit Go.Sort
end Go.Proofs.Ytejnpppejalhfac
/- slices.Grow of a nil slice of areas; slices.Concat of three. -/
namespace Go.Proofs.Ytejnpppejalhfac
open Go.RowKit Go.Sort
end Go.Proofs.Ytejnpppejalhfac
/- slices.Concat of rows of areas. -/
namespace Go.Proofs.Ytejnpppejalhfac
open Go.RowKit Go.Sort
end Go.Proofs.Ytejnpppejalhfac
/- slices.Concat of three rows of areas: the walk. -/
namespace Go.Proofs.Ytejnpppejalhfac
open Go.RowKit Go.Sort
theorem SlAr.below {w w':World} {v:Value} {L:List Ar} (h:SlAr w v L) (hb:Below w.heap.size w w'):SlAr w' v L:=by
 rcases h with h|⟨b,off,cap,rfl,h2,h3,h4,h5⟩
 ·exact Or.inl h
 ·exact Or.inr ⟨b,off,cap,rfl,Nat.lt_of_lt_of_le h2 hb.size,h3,h4,fun i a ha=>(h5 i a ha).grown hb h2⟩
end Go.Proofs.Ytejnpppejalhfac
/- The contract of area.Find. -/
namespace Go.Proofs.Ytejnpppejalhfac
open Go.RowKit Go.Sort
def cmpI (a:Ar) (page:Int):Int:=if wrap64 a.fin≤page then -1 else 1
set_option maxRecDepth 100000 in
set_option maxHeartbeats 1000000 in
theorem cmp_any (a:Ar) (page:Int) (w:World):Calls Try.prog 45 #[.agg (arC a).toArray,.int .i64 page] w (RB (.int .i64 (cmpI a page)) w):=by
 have HE:=hid (fun w=>end_any a w)
 have HC:Hid (cmpI a page=if wrap64 a.fin≤page then -1 else 1):=hid rfl
 generalize wrap64 a.fin=f at *
 unfold arC at *
 by_cases h:f≤page
 ·go_enter Try.func45,Try.ntmps45
  go_wp2_with (first|(go_at_call 46;(with_reducible refine (HE.out _).mono ?_);rintro e w1 ⟨rfl,hb1⟩))
  go_ret
  exact ⟨ret_int (by rw [HC.out,if_pos h]),(by repeat (first|(with_reducible exact Below.refl _ _)|(with_reducible refine Below.alloc ?_ (by (omega)) _)|(refine bt ?_ (by with_reducible assumption))))⟩
 ·go_enter Try.func45,Try.ntmps45
  go_wp2_with (first|(go_at_call 46;(with_reducible refine (HE.out _).mono ?_);rintro e w1 ⟨rfl,hb1⟩))
  go_ret
  exact ⟨ret_int (by rw [HC.out,if_neg (by omega)]),(by repeat (first|(with_reducible exact Below.refl _ _)|(with_reducible refine Below.alloc ?_ (by (omega)) _)|(refine bt ?_ (by with_reducible assumption))))⟩
theorem cmp_ne (a:Ar) (page:Int):(cmpI a page == 0)=false:=by unfold cmpI;split <;> decide
theorem cmp_lt {a:Ar} {page:Int}:cmpI a page < 0 ↔ wrap64 a.fin≤page:=by unfold cmpI;split <;> omega
theorem rise_fin {L:List Ar} (h:Good L):∀ {j k:Nat} {a b:Ar},j < k→L[j]?=some a→L[k]?=some b→a.fin≤b.pg:=by
 have ok:=(good_iff L).1 h
 intro j k
 induction k with
 |zero=>intro a b hj;omega
 |succ k ih=>
  intro a b hj ha hb
  obtain ⟨hk,_⟩:=List.getElem?_eq_some_iff.1 hb
  obtain ⟨c,hc⟩:∃ c,L[k]?=some c:=⟨L[k],by simp⟩
  have h1:=((okAt_succ hb hc).1 (ok (k + 1) hk)).2.1
  rcases Nat.lt_succ_iff_lt_or_eq.1 hj with h2|h2
  ·have h3:=ih h2 ha hc
   have h4:=good_ok h k c hc
   unfold Ar.ok at h4
   unfold Ar.fin at *
   omega
  ·subst h2;rw [ha] at hc;cases hc;exact h1
def BsInv (L:List Ar) (page:Int) (i j:Nat):Prop:=Good L→(∀ (t:Nat) (a:Ar),t < i→L[t]?=some a→a.fin≤page)∧(∀ (t:Nat) (a:Ar),j≤t→L[t]?=some a→page < a.fin)
theorem bs_start (L:List Ar) (page:Int):BsInv L page 0 L.length:=fun _=>⟨fun t a h=>by omega,fun t a h ha=>by obtain ⟨h2,_⟩:=List.getElem?_eq_some_iff.1 ha;omega⟩
theorem bs_left {L:List Ar} {page:Int} {i j h:Nat} {a:Ar} (hI:BsInv L page i j) (ha:L[h]?=some a) (hc:cmpI a page < 0):BsInv L page (h + 1) j:=fun hg=>by
 have hok:=good_ok hg h a ha
 rw [cmp_lt,fin_wrap hok] at hc
 refine ⟨fun t b ht hb=>?_,(hI hg).2⟩
 rcases Nat.lt_succ_iff_lt_or_eq.1 ht with h1|h1
 ·have:=rise_fin hg h1 hb ha
  have hb':=good_ok hg t b hb
  unfold Ar.ok at hok
  unfold Ar.fin at *
  omega
 ·subst h1;rw [ha] at hb;cases hb;exact hc
theorem bs_right {L:List Ar} {page:Int} {i j h:Nat} {a:Ar} (hI:BsInv L page i j) (ha:L[h]?=some a) (hc:¬ cmpI a page < 0):BsInv L page i h:=fun hg=>by
 have hok:=good_ok hg h a ha
 rw [cmp_lt,fin_wrap hok] at hc
 refine ⟨(hI hg).1,fun t b ht hb=>?_⟩
 rcases Nat.lt_or_eq_of_le ht with h1|h1
 ·have:=rise_fin hg h1 ha hb
  have hb':=good_ok hg t b hb
  unfold Ar.ok at hb'
  unfold Ar.fin at *
  omega
 ·subst h1;rw [ha] at hb;cases hb;omega
def BsPost (L:List Ar) (page:Int) (w:World) (e:Ending) (w':World):Prop:=∃ i:Nat,i≤L.length∧e=.returned (.tuple #[.int .i64 i,.bool false])∧Below w.heap.size w w'∧BsInv L page i i
theorem half_num (i j n:Nat) (hi:i≤n) (hj:j≤n) (h:n≤9223372036854775807):IntKind.u64.wrap (wrap64 ((i:Int) + j))=(i:Int) + j:=by
 rw [IntKind.wrap_u64];unfold wrap64;omega
theorem half_num0 (i j n:Nat) (hi:i≤n) (hj:j≤n) (h:n≤9223372036854775807):IntKind.u64.wrap ((i:Int) + j)=(i:Int) + j:=by
 rw [IntKind.wrap_u64];omega
theorem wrap_succ (h n:Nat) (h1:h < n) (h2:n≤9223372036854775807):wrap64 ((h:Int) + 1)=(h:Int) + 1:=by unfold wrap64;omega
theorem len_max {n cap:Nat} (h:n≤cap) (hm:cap≤maxLen):n≤9223372036854775807:=Nat.le_trans h hm
theorem ms1 {i j h:Nat} (h1:i≤h) (h2:h < j):((j:Int)).toNat - ((h:Int) + 1).toNat < (j:Int).toNat - (i:Int).toNat:=by omega
theorem ms2 {i j h:Nat} (h1:i≤h) (h2:h < j):((h:Int)).toNat - (i:Int).toNat < (j:Int).toNat - (i:Int).toNat:=by omega
theorem half_num2 (i j n:Nat) (hi:i≤n) (hj:j≤n) (h:n≤9223372036854775807):wrap64 (((i:Int) + j) / 2)=((i + j) / 2:Nat):=by
 unfold wrap64;omega
set_option maxRecDepth 100000 in
set_option maxHeartbeats 4000000 in
theorem bs_any {L:List Ar} {w:World} (b off cap:Nat) (page:Int) (hbl:b < w.heap.size) (hcap:L.length≤cap) (hmax:cap≤maxLen) (hcells:∀ i a,L[i]?=some a→CellsAr w b (off + i * 4) a) :
  Calls Try.prog 44 #[.slice (some ⟨b,off,none⟩) L.length cap,.int .i64 page,.func (.func 45) #[] #[]] w (BsPost L page w):=by
 have hlen:=len_max hcap hmax
 clear hmax hcap
 have HLEN:=hid hlen;clear hlen
 have HL:=hid hcells
 have HI:=hid (bs_start L page)
 clear hcells
 go_enter Try.func44,Try.ntmps44
 go_wp2
 go_loopw [9,10] (fun vi vj wr=>∃ i j:Nat,i≤j∧j≤L.length∧vi=.int .i64 i∧vj=.int .i64 j∧Below w.heap.size w wr∧Hid (BsInv L page i j)) (fun vi vj _=>(intOf vj).toNat - (intOf vi).toNat)
 case atStart=>exact ⟨0,L.length,by omega,by omega,rfl,rfl,Below.refl _ _,HI.out⟩
 case round=>
  clear HI
  obtain ⟨i,j,hij,hj,rfl,rfl,hb,HI⟩:=hrel
  by_cases hlt:i < j
  ·obtain ⟨h,hh⟩:∃ h,h=(i + j) / 2:=⟨_,rfl⟩
   have hhj:h < j:=by omega
   have hih:i≤h:=by omega
   obtain ⟨a,ha⟩:∃ a,L[h]?=some a:=⟨L[h]'(by omega),by simp⟩
   obtain ⟨c0,c1,c2,c3⟩:=(HL.out h a ha).grown hb hbl
   have hbr:=ltAll (Nat.lt_of_lt_of_le hbl hb.size)
   have hsz:=hb.size
   have hq0:=half_num0 i j L.length (Nat.le_trans hij hj) hj HLEN.out
   have hq1:=half_num i j L.length (Nat.le_trans hij hj) hj HLEN.out
   have hq2:=half_num2 i j L.length (Nat.le_trans hij hj) hj HLEN.out
   rw [← hh] at hq2
   have HC:=hid (fun w=>cmp_any a page w)
   unfold arC at HC
   have hw1:wrap64 ((h:Int) + 1)=(h:Int) + 1:=wrap_succ h L.length (Nat.lt_of_lt_of_le hhj hj) HLEN.out
   have hlh:(h:Int) < L.length:=Int.ofNat_lt.2 (Nat.lt_of_lt_of_le hhj hj)
   clear hh
   go_upto_region 5 with fail
   rw [hq2]
   clear hq0 hq1 hq2
   by_cases hc:cmpI a page < 0
   ·have HX:=hid (bs_left HI.out ha hc)
    generalize cmpI a page=cv at *
    go_wp2_with (first|(go_at_call 45;(with_reducible refine (HC.out _).mono ?_);rintro e w1 ⟨rfl,hb1⟩))
    go_roundw
    case rel=>exact ⟨h + 1,j,Nat.succ_le_of_lt hhj,hj,by rw [hw1];rfl,rfl,(by repeat (first|(with_reducible assumption)|(refine bt ?_ (by with_reducible assumption)))),HX.out⟩
    case measure=>(rw [hw1];exact ms1 hih hhj)
   ·have HX:=hid (bs_right HI.out ha hc)
    generalize cmpI a page=cv at *
    go_wp2_with (first|(go_at_call 45;(with_reducible refine (HC.out _).mono ?_);rintro e w1 ⟨rfl,hb1⟩))
    go_roundw
    case rel=>exact ⟨i,h,hih,Nat.le_of_lt (Nat.lt_of_lt_of_le hhj hj),rfl,rfl,(by repeat (first|(with_reducible assumption)|(refine bt ?_ (by with_reducible assumption)))),HX.out⟩
    case measure=>exact ms2 hih hhj
  ·obtain rfl:i=j:=by omega
   by_cases hn:i < L.length
   ·obtain ⟨a,ha⟩:∃ a,L[i]?=some a:=⟨L[i],by simp [hn]⟩
    obtain ⟨c0,c1,c2,c3⟩:=(HL.out i a ha).grown hb hbl
    have hbr:=ltAll (Nat.lt_of_lt_of_le hbl hb.size)
    have hsz:=hb.size
    have HC:=hid (fun w=>cmp_any a page w)
    have hz:=cmp_ne a page
    unfold arC at HC
    generalize cmpI a page=cv at *
    go_wp2_with (first|(go_at_call 45;(with_reducible refine (HC.out _).mono ?_);rintro e w1 ⟨rfl,hb1⟩))
    go_ret2
    exact ⟨i,hj,rfl,(by repeat (first|(with_reducible assumption)|(refine bt ?_ (by with_reducible assumption)))),HI.out⟩
   ·go_wp2
    go_ret2
    exact ⟨i,hj,rfl,(by repeat ((with_reducible assumption))),HI.out⟩
end Go.Proofs.Ytejnpppejalhfac
/- The contracts of the reference's SameAreas (all forms), within, CheckAreas. -/
namespace Go.Proofs.Ytejnpppejalhfac
open Go.RowKit Go.Sort
end Go.Proofs.Ytejnpppejalhfac
/- The contract of the reference's CheckAreas. -/
namespace Go.Proofs.Ytejnpppejalhfac
open Go.RowKit Go.Sort
end Go.Proofs.Ytejnpppejalhfac
/- The contracts of the reference's spanError, MapIn. -/
namespace Go.Proofs.Ytejnpppejalhfac
open Go.RowKit Go.Sort
end Go.Proofs.Ytejnpppejalhfac
/- The contract of the reference's MapIn. -/
namespace Go.Proofs.Ytejnpppejalhfac
open Go.RowKit Go.Sort
end Go.Proofs.Ytejnpppejalhfac
/- The contract of the reference's UnmapIn. -/
namespace Go.Proofs.Ytejnpppejalhfac
open Go.RowKit Go.Sort
end Go.Proofs.Ytejnpppejalhfac
/- The contract of the reference's ProtectIn. -/
namespace Go.Proofs.Ytejnpppejalhfac
open Go.RowKit Go.Sort
end Go.Proofs.Ytejnpppejalhfac
/- The contracts of package area in the words of the step calculus; the closures; turned. -/
namespace Go.Proofs.Ytejnpppejalhfac
open Go.RowKit Go.Sort
theorem ar_of_sl {w:World} {v:Value} {L:List Ar} (h:Sl nF w 4 v (L.map arC)):SlAr w v L:=by
 rcases h with ⟨p,c,rfl,h⟩|⟨b,off,cap,rfl,h3,h4,hr⟩
 ·exact Or.inl ⟨_,_,rfl,by simpa using h⟩
 ·rw [List.length_map] at h3 ⊢
  refine Or.inr ⟨b,off,cap,rfl,hr.lt,h3,h4,fun i a ha=>?_⟩
  have hk:(L.map arC)[i]?=some (arC a):=by simp [ha]
  exact ⟨hr.cells i _ hk 0 _ rfl,hr.cells i _ hk 1 _ rfl,hr.cells i _ hk 2 _ rfl,hr.cells i _ hk 3 _ rfl⟩
theorem check_fn {v:Value} {L:List Ar} {w:World} (h:Sl nF w 4 v (L.map arC)):Fn Try.prog 30 [v] w (RBf (.int .i64 (checkI L)) w) :=
 Fn.of_rb ⟨Try.func30,by kernel_rfl,by kernel_rfl⟩ (check_sl (ar_of_sl h))
end Go.Proofs.Ytejnpppejalhfac
/- area.Map, Unmap, Protect, by the step calculus. -/
namespace Go.Proofs.Ytejnpppejalhfac
open Go.RowKit Go.Sort
theorem sumN_bd {M:List Ar} (hok:∀ (i:Nat) (a:Ar),M[i]?=some a→a.ok) (i:Nat):0≤sumN (M.take i)∧sumN (M.take i)≤255 * (i:Int):=by
 induction i with
 |zero=>simp [sumN]
 |succ i ih=>
  cases ha:M[i]? with
  |none=>
   have:M.length≤i:=by simpa using ha
   rw [List.take_of_length_le (by omega)] at ih ⊢
   omega
  |some a=>
   rw [sumN_take ha]
   have:=hok i a ha
   unfold Ar.ok at this
   omega
end Go.Proofs.Ytejnpppejalhfac
/- The contract of area.Find. -/
namespace Go.Proofs.Ytejnpppejalhfac
open Go.RowKit Go.Sort
set_option maxRecDepth 100000 in
set_option maxHeartbeats 4000000 in
theorem bs_nil (p:Option Addr) (c:Nat) (page:Int) (w:World):Calls Try.prog 44 #[.slice p 0 c,.int .i64 page,.func (.func 45) #[] #[]] w (BsPost [] page w):=by
 go_enter Try.func44,Try.ntmps44
 go_wp2
 go_loopw [9,10] (fun vi vj wr=>vi=.int .i64 0∧vj=.int .i64 0∧wr=w) (fun _ _ _=>0)
 case atStart=>exact ⟨rfl,rfl,rfl⟩
 case round=>
  obtain ⟨rfl,rfl,rfl⟩:=hrel
  go_wp2
  go_ret2
  exact ⟨0,by simp,rfl,(by repeat ((with_reducible exact Below.refl _ _))),bs_start [] page⟩
theorem bs_sl {v:Value} {L:List Ar} {w:World} (page:Int) (h:SlAr w v L):Calls Try.prog 44 #[v,.int .i64 page,.func (.func 45) #[] #[]] w (BsPost L page w):=by
 rcases h with ⟨p,c,rfl,rfl⟩|⟨b,off,cap,rfl,h2,h3,h4,h5⟩
 ·exact bs_nil p c page w
 ·exact bs_any b off cap page h2 h3 h4 h5
theorem holds_not {page:Int} {a:Ar} (h:a.fin≤page∨page < a.pg):holdsB page a=false:=by unfold holdsB;simp;omega
theorem find_end {L:List Ar} {page:Int} (hg:Good L) (hI:BsInv L page L.length L.length):findA L page=none :=
 findA_none fun j b hj hb=>holds_not (Or.inl ((hI hg).1 j b hj hb))
theorem find_gap {L:List Ar} {page:Int} {i:Nat} {a:Ar} (hg:Good L) (hI:BsInv L page i i) (ha:L[i]?=some a) (h:page < a.pg):findA L page=none :=
 findA_none fun j b hj hb=>by
  rcases Nat.lt_or_ge j i with h1|h1
  ·exact holds_not (Or.inl ((hI hg).1 j b h1 hb))
  ·rcases Nat.lt_or_eq_of_le h1 with h2|h2
   ·have:=rise_fin hg h2 ha hb
    have hk:=good_ok hg i a ha
    unfold Ar.ok at hk
    exact holds_not (Or.inr (by unfold Ar.fin at this;omega))
   ·subst h2;rw [ha] at hb;cases hb;exact holds_not (Or.inr h)
theorem find_hit {L:List Ar} {page:Int} {i:Nat} {a:Ar} (hg:Good L) (hI:BsInv L page i i) (ha:L[i]?=some a) (h:a.pg≤page):findA L page=some a :=
 findA_some (fun j b hj hb=>holds_not (Or.inl ((hI hg).1 j b hj hb))) ha (by unfold holdsB;simp;exact ⟨h,(hI hg).2 i a (Nat.le_refl _) ha⟩)
def findI (L:List Ar) (page:Int):Option Ar:=if checkI L=0 then findA L page else none
set_option maxRecDepth 100000 in
set_option maxHeartbeats 4000000 in
theorem find_any {v:Value} {L:List Ar} {w:World} (page:Int) (h:SlAr w v L):Calls Try.prog 19 #[v,.int .i64 page] w (RB (FindV (findI L page)) w):=by
 have HC:=hid (fun w' (hb:Below w.heap.size w w')=>check_sl (h.grown hb))
 have HS:=hid (fun w' (hb:Below w.heap.size w w')=>bs_sl page (h.grown hb))
 have hsz:(Try.prog.info? 71).map (·.size)=some 4:=by kernel_rfl
 have Hsz:=hid hsz;clear hsz
 have hbw:=Below.refl w.heap.size w
 go_enter Try.func19,Try.ntmps19
 go_wp2_with (first|((with_reducible refine at_op 4 ?_);refine wpList_new_row' rfl (some 4) rfl (zl4) 71 (by kernel_rfl) w.heap.size w hbw hbw.size ?_;intro g4 wn4 hL4 hB4 hbn hkn hnn;skip;clear hbw hkn hnn;have hbw:=hbn;clear hbn)|(go_at_call 44;(with_reducible refine (HS.out _ hbw).mono ?_);rintro e wc ⟨i,hi,rfl,hbc,hI⟩;have hL4:=hL4.grown hbc hL4.lt;have hbn:=bt hbw hbc;clear hbw hbc;have hbw:=hbn;clear hbn))
 by_cases hc:checkI L=0
 ·obtain ⟨_,hg⟩:=checkI_zero.1 hc
  have HQ:Hid (findI L page=findA L page):=by refine hid ?_;unfold findI;rw [if_pos hc]
  rw [hc] at HC
  clear hc
  by_cases hlt:i < L.length
  ·obtain ⟨a,ha⟩:∃ a,L[i]?=some a:=⟨L[i],by simp [hlt]⟩
   rcases h with ⟨p,c,rfl,rfl⟩|⟨b,off,cap,rfl,hbl,hcap,hmax,hcells⟩
   ·simp at hlt
   have HL:=hid hcells
   have hne:((i:Int) == L.length)=false:=by rw [beq_eq_false_iff_ne];omega
   have hli:(i:Int) < L.length:=Int.ofNat_lt.2 hlt
   clear hcells hmax
   by_cases hp:page < a.pg
   ·have HX:=hid (find_gap hg hI ha hp)
    clear hI
    go_wp2_with (first|((go_at_call 30;(with_reducible refine (HC.out _ hbw).mono ?_);rintro e wk ⟨rfl,hbc⟩);have hL4:=hL4.grown hbc hL4.lt;have hbn:=bt hbw hbc;clear hbw hbc;have hbw:=hbn;clear hbn;obtain ⟨c0,c1,c2,c3⟩:=(HL.out i a ha).grown hbw hbl)|((with_reducible refine at_store 4 ?_);refine wpList_put_row rfl 71 (.tmp 4) (.tmp 32) rfl rfl g4 (zl4) (zl4) rfl rfl hL4 Hsz.out rfl rfl w.heap.size w hbw hB4 ?_;intro wp4 hLn hbn hon;skip;clear hL4 hbw hon;have hL4:=hLn;have hbw:=hbn;clear hLn hbn))
    refine bodyPost_ret (v:=.tuple #[.agg (zl4).toArray,.bool false]) (results_hold2 rfl _ g4 (zl4) (.bool false) _ rfl rfl hL4 Try.underlying71 rfl Hsz.out) rfl ⟨by rw [HQ.out,HX.out];rfl,hbw⟩
   ·have HX:=hid (find_hit hg hI ha (by omega))
    clear hI
    have hp':decide (page < a.pg)=false:=by simpa using hp
    go_wp2_with (first|((go_at_call 30;(with_reducible refine (HC.out _ hbw).mono ?_);rintro e wk ⟨rfl,hbc⟩);have hL4:=hL4.grown hbc hL4.lt;have hbn:=bt hbw hbc;clear hbw hbc;have hbw:=hbn;clear hbn;obtain ⟨c0,c1,c2,c3⟩:=(HL.out i a ha).grown hbw hbl)|((with_reducible refine at_store 4 ?_);refine wpList_put_row rfl 71 (.tmp 4) (.tmp 36) rfl rfl g4 ([.int .i64 a.pg,.int .i64 a.n,.int .i64 a.prot,.bool a.z]) (zl4) rfl rfl hL4 Hsz.out rfl rfl w.heap.size w hbw hB4 ?_;intro wp4 hLn hbn hon;skip;clear hL4 hbw hon;have hL4:=hLn;have hbw:=hbn;clear hLn hbn))
    refine bodyPost_ret (v:=.tuple #[.agg ([.int .i64 a.pg,.int .i64 a.n,.int .i64 a.prot,.bool a.z]).toArray,.bool true]) (results_hold2 rfl _ g4 ([.int .i64 a.pg,.int .i64 a.n,.int .i64 a.prot,.bool a.z]) (.bool true) _ rfl rfl hL4 Try.underlying71 rfl Hsz.out) rfl ⟨by rw [HQ.out,HX.out];rfl,hbw⟩
  ·obtain rfl:i=L.length:=by omega
   have HX:=hid (find_end hg hI)
   have hlen:∃ n:Nat,n=L.length:=⟨_,rfl⟩
   clear hI
   rcases h with ⟨p,c,rfl,rfl⟩|⟨b,off,cap,rfl,hbl,hcap,hmax,hcells⟩
   ·go_wp2_with (first|((go_at_call 30;(with_reducible refine (HC.out _ hbw).mono ?_);rintro e wk ⟨rfl,hbc⟩);have hL4:=hL4.grown hbc hL4.lt;have hbn:=bt hbw hbc;clear hbw hbc;have hbw:=hbn;clear hbn;skip)|((with_reducible refine at_store 4 ?_);refine wpList_put_row rfl 71 (.tmp 4) (.tmp 32) rfl rfl g4 (zl4) (zl4) rfl rfl hL4 Hsz.out rfl rfl w.heap.size w hbw hB4 ?_;intro wp4 hLn hbn hon;skip;clear hL4 hbw hon;have hL4:=hLn;have hbw:=hbn;clear hLn hbn))
    refine bodyPost_ret (v:=.tuple #[.agg (zl4).toArray,.bool false]) (results_hold2 rfl _ g4 (zl4) (.bool false) _ rfl rfl hL4 Try.underlying71 rfl Hsz.out) rfl ⟨by rw [HQ.out,HX.out];rfl,hbw⟩
   ·clear hcells hmax
    go_wp2_with (first|((go_at_call 30;(with_reducible refine (HC.out _ hbw).mono ?_);rintro e wk ⟨rfl,hbc⟩);have hL4:=hL4.grown hbc hL4.lt;have hbn:=bt hbw hbc;clear hbw hbc;have hbw:=hbn;clear hbn;skip)|((with_reducible refine at_store 4 ?_);refine wpList_put_row rfl 71 (.tmp 4) (.tmp 32) rfl rfl g4 (zl4) (zl4) rfl rfl hL4 Hsz.out rfl rfl w.heap.size w hbw hB4 ?_;intro wp4 hLn hbn hon;skip;clear hL4 hbw hon;have hL4:=hLn;have hbw:=hbn;clear hLn hbn))
    refine bodyPost_ret (v:=.tuple #[.agg (zl4).toArray,.bool false]) (results_hold2 rfl _ g4 (zl4) (.bool false) _ rfl rfl hL4 Try.underlying71 rfl Hsz.out) rfl ⟨by rw [HQ.out,HX.out];rfl,hbw⟩
 ·have HQ:Hid (findI L page=none):=by refine hid ?_;unfold findI;rw [if_neg hc]
  have hn:(checkI L != 0)=true:=by rw [bne_iff_ne];exact hc
  clear hc
  generalize checkI L=ck at *
  go_wp2_with (first|((go_at_call 30;(with_reducible refine (HC.out _ hbw).mono ?_);rintro e wk ⟨rfl,hbc⟩);have hL4:=hL4.grown hbc hL4.lt;have hbn:=bt hbw hbc;clear hbw hbc;have hbw:=hbn;clear hbn;skip)|((with_reducible refine at_store 4 ?_);refine wpList_put_row rfl 71 (.tmp 4) (.tmp 32) rfl rfl g4 (zl4) (zl4) rfl rfl hL4 Hsz.out rfl rfl w.heap.size w hbw hB4 ?_;intro wp4 hLn hbn hon;skip;clear hL4 hbw hon;have hL4:=hLn;have hbw:=hbn;clear hLn hbn))
  refine bodyPost_ret (v:=.tuple #[.agg (zl4).toArray,.bool false]) (results_hold2 rfl _ g4 (zl4) (.bool false) _ rfl rfl hL4 Try.underlying71 rfl Hsz.out) rfl ⟨by rw [HQ.out];rfl,hbw⟩
end Go.Proofs.Ytejnpppejalhfac
/- The reference's contracts for areas in the words of the step calculus. -/
namespace Go.Proofs.Ytejnpppejalhfac
open Go.RowKit Go.Sort
theorem Find_fn {v:Value} {L:List Ar} {w:World} (page:Int) (h:Sl nF w 4 v (L.map arC)):Fn Try.prog 19 [v,.int .i64 page] w (RBf (FindV (findI L page)) w) :=
 Fn.of_rb ⟨Try.func19,by kernel_rfl,by kernel_rfl⟩ (find_any page (ar_of_sl h))
theorem Total_fn {v:Value} {L:List Ar} {w:World} (h:Sl nF w 4 v (L.map arC)):Fn Try.prog 12 [v] w (RBf (.int .i64 (if checkI L=0 then sumN L else 0)) w):=by
 by_cases hc:checkI L=0
 ·rw [if_pos hc]
  exact Fn.of_rb ⟨Try.func12,by kernel_rfl,by kernel_rfl⟩ (total_good (ar_of_sl h) hc)
 ·rw [if_neg hc]
  exact Fn.of_rb ⟨Try.func12,by kernel_rfl,by kernel_rfl⟩ (total_bad (ar_of_sl h) hc)
theorem Sl.nil (w:World) (sz:Nat):Sl nF w sz (.slice none 0 0) []:=Or.inl ⟨_,_,rfl,rfl⟩
def L2:List Ar:=[⟨3,1,1,true⟩,⟨4,1,0,true⟩,⟨5,2,1,true⟩]
end Go.Proofs.Ytejnpppejalhfac
/- What AreaKeeps says, in plain Lean. -/
namespace Go.Proofs.Ytejnpppejalhfac
open Go.RowKit Go.Sort
theorem find_ok {L:List Ar} {p:Int} {a:Ar} (h:RiseF 1 L) (hf:findA L p=some a):a.ok:=by
 unfold findA at hf
 obtain ⟨i,hi⟩:=List.mem_iff_getElem?.1 (List.mem_of_find?_eq_some hf)
 exact rise_ok h i a hi
theorem findI_good {L:List Ar} {p:Int} (h:checkI L=0):findI L p=findA L p:=if_pos h
end Go.Proofs.Ytejnpppejalhfac
/- What is linked is right: in plain Lean. -/
namespace Go.Proofs.Ytejnpppejalhfac
open Go.RowKit Go.Sort
def arOk (A:List Ar) (p:Int):Bool:=match findA A p with
 |some a=>!a.z
 |none=>false
def shsB (A:List Ar):Int→List Sh→Bool
 |_,[]=>true
 |last,s::r=>arOk A s.page && (rightS s && (decide (last < s.page) && shsB A s.page r))
def riseB:Int→List Sh→Bool
 |_,[]=>true
 |last,s::r=>rightS s && (decide (last < s.page) && riseB s.page r)
def arB (A:List Ar) (l:List Sh):Bool:=l.all fun s=>arOk A s.page
theorem shsB_eq (A:List Ar):∀ (l:List Sh) (last:Int),shsB A last l=(riseB last l && arB A l):=by
 intro l
 induction l with
 |nil=>intro last;rfl
 |cons s r ih=>
  intro last
  simp only [shsB,riseB,arB,List.all_cons,ih]
  cases arOk A s.page <;> cases rightS s <;> cases decide (last < s.page) <;> cases riseB s.page r <;> rfl
def entB (A:List Ar) (en:Int):Bool:=decide (0≤en∧en.tmod 8=0) && (match findA A (en.tdiv 16) with
 |some a=>decide (2≤a.prot)
 |none=>false)
def lkB (A:List Ar) (L:List Sh) (en:Int):Bool:=decide ((L.length:Int)=sumN A) && (shsB A 0 L && entB A en)
def checkLk (A:List Ar) (L:List Sh) (en:Int):Int:=if checkI A=0 then (if lkB A L en=true then 0 else 1) else checkI A
structure ShsV (w:World) (Lp:List (Sh×Value)) (vs:Value):Prop where
 sl:Sl nF w 3 vs (Lp.map fun p=>shC p.1 p.2)
 fx:∀ p ∈ Lp,ShV w p.1 p.2
theorem ShsV.now {w w':World} {Γ:List Asr} {Lp:List (Sh×Value)} {vs:Value} (h:ShsV w Lp vs) (hS:St nF w w' Γ):ShsV w' Lp vs:=⟨h.sl.now hS,fun p hp=>(h.fx p hp).now hS⟩
def shs (Lp:List (Sh×Value)):List Sh:=Lp.map (·.1)
theorem shs_len (Lp:List (Sh×Value)):(shs Lp).length=Lp.length:=by unfold shs;simp
theorem shs_at {Lp:List (Sh×Value)} {i:Nat} {p:Sh×Value} (h:Lp[i]?=some p):(shs Lp)[i]?=some p.1:=by unfold shs;rw [List.getElem?_map,h];rfl
theorem shsB_step {A:List Ar} {l:List Sh} {i:Nat} {s:Sh} {last:Int} (h:l[i]?=some s):shsB A last (l.drop i)=(arOk A s.page && (rightS s && (decide (last < s.page) && shsB A s.page (l.drop (i + 1))))):=by
 rw [drop_at h];rfl
theorem good_pos {A:List Ar} (hc:checkI A=0) {p:Int} {a:Ar} (h:findA A p=some a):a.ok∧1≤p:=by
 have hg:=(checkI_zero.1 hc).2
 have hok:=find_ok hg.1 h
 have:=List.find?_some h
 unfold holdsB at this
 rw [decide_eq_true_eq] at this
 unfold Ar.ok at hok
 exact ⟨hok,by omega⟩
def lkA (va vs:Value) (en:Int):Value:=.agg [va,vs,.int .i64 en].toArray
end Go.Proofs.Ytejnpppejalhfac
/- Kernels, in plain Lean: what they hold, how that lies in memory, whether they are right. -/
namespace Go.Proofs.Ytejnpppejalhfac
open Go.RowKit Go.Sort
structure Fm where
 data:List UInt8
 refs:Int
 dirty:Bool
 seen:Bool
 deriving DecidableEq
structure Sw where
 data:List UInt8
 refs:Int
 deriving DecidableEq
structure En where
 page:Int
 kind:Int
 at_:Int
 deriving DecidableEq
structure Sc where
 live:Bool
 areas:List Ar
 entries:List En
 deriving DecidableEq
structure Ker where
 sheets:List Sh
 frames:List Fm
 slots:List Sw
 spaces:List Sc
 hand:Int
def fm0:Fm:=⟨[],0,false,false⟩
def sw0:Sw:=⟨[],0⟩
def fmC (f:Fm):List Value:=[.string ⟨f.data.toArray⟩,.int .i64 f.refs,.bool f.dirty,.bool f.seen]
def swC (s:Sw):List Value:=[.string ⟨s.data.toArray⟩,.int .i64 s.refs]
def enC (e:En):List Value:=[.int .i64 e.page,.int .i64 e.kind,.int .i64 e.at_]
structure Sp where
 s:Sc
 va:Value
 ve:Value
def spC (p:Sp):List Value:=[.bool p.s.live,p.va,p.ve]
structure KV where
 sh:List (Sh×Value)
 fr:List Fm
 sl:List Sw
 sp:List Sp
 hand:Int
 vsh:Value
 vfr:Value
 vsl:Value
 vsp:Value
def KV.K (k:KV):Ker:=⟨shs k.sh,k.fr,k.sl,k.sp.map (·.s),k.hand⟩
def kvC (k:KV):List Value:=[k.vsh,k.vfr,k.vsl,k.vsp,.int .i64 k.hand]
structure SpV (w:World) (p:Sp):Prop where
 ar:Sl nF w 4 p.va (p.s.areas.map arC)
 en:Sl nF w 3 p.ve (p.s.entries.map enC)
structure KerV (w:World) (k:KV):Prop where
 sh:ShsV w k.sh k.vsh
 fr:Sl nF w 4 k.vfr (k.fr.map fmC)
 sl:Sl nF w 2 k.vsl (k.sl.map swC)
 sp:Sl nF w 3 k.vsp (k.sp.map spC)
 spv:∀ p ∈ k.sp,SpV w p
theorem SpV.now {w w':World} {Γ:List Asr} {p:Sp} (h:SpV w p) (hS:St nF w w' Γ):SpV w' p:=⟨h.ar.now hS,h.en.now hS⟩
theorem KerV.now {w w':World} {Γ:List Asr} {k:KV} (h:KerV w k) (hS:St nF w w' Γ):KerV w' k:=⟨h.sh.now hS,h.fr.now hS,h.sl.now hS,h.sp.now hS,fun p hp=>(h.spv p hp).now hS⟩
/-! what a page is filled with -/
def shAt (l:List Sh) (p:Int):Option Sh:=l.find? fun s=>decide (s.page=p)
def fillP (l:List Sh) (z:Bool) (p:Int):Option (List UInt8):=if z then some (List.replicate 16 0) else (shAt l p).map fillS
/-! who names what -/
abbrev Nm:=En×Ar
def nmC (n:Nm):List Value:=[.int .i64 n.1.page,.int .i64 n.1.kind,.int .i64 n.1.at_,.int .i64 n.2.pg,.int .i64 n.2.n,.int .i64 n.2.prot,.bool n.2.z]
def idxI {α:Type} (p:α→Bool) (l:List α):Int:=match l.findIdx? p with
 |some i=>(i:Nat)
 |none=>-1
def nmOf (s:Sc) (e:En):Nm:=(e,(findA s.areas e.page).getD zeroAr)
def namers (l:List Sc) (kind at_:Int):List Nm:=l.flatMap fun s=>(s.entries.filter fun e=>decide (e.kind=kind∧e.at_=at_)).map (nmOf s)
def alikeN (l:List Nm):Bool:=match l with
 |[]=>true
 |n::r=>r.all fun m=>decide (m.1.page=n.1.page∧m.2.z=n.2.z)
def entOk (A:List Ar) (nf ns:Int) (last:Int) (e:En):Bool:=(findA A e.page).isSome && decide (last < e.page∧((e.kind=1∧0≤e.at_∧e.at_ < nf)∨(e.kind=2∧0≤e.at_∧e.at_ < ns)))
def entsB (A:List Ar) (nf ns:Int):Int→List En→Bool
 |_,[]=>true
 |last,e::r=>entOk A nf ns last e && entsB A nf ns e.page r
def pagesB (l:List Sh) (A:List Ar):Bool:=A.all fun a=>(List.range a.n.toNat).all fun i=>(fillP l a.z (a.pg + (i:Nat))).isSome
def spaceB (l:List Sh) (nf ns:Int) (s:Sc):Bool:=if s.live then decide (checkI s.areas=0) && (pagesB l s.areas && entsB s.areas nf ns 0 s.entries) else decide (s.areas=[]∧s.entries=[])
def roomI (l:List Sc):Int:=(l.map fun s=>sumN s.areas).sum
def frameB (l:List Sh) (f:Fm) (by_:List Nm):Bool:=match by_ with
 |[]=>decide (f=fm0)
 |n::r=>decide (f.refs=((n::r).length:Int)∧f.data.length=16) && (alikeN (n::r) && (f.dirty||decide (some f.data=fillP l n.2.z n.1.page)))
def slotB (s:Sw) (by_:List Nm):Bool:=match by_ with
 |[]=>decide (s=sw0)
 |n::r=>decide (s.refs=((n::r).length:Int)∧s.data.length=16) && alikeN (n::r)
def framesB (K:Ker):Bool:=(List.range K.frames.length).all fun i=>match K.frames[i]? with
 |some f=>frameB K.sheets f (namers K.spaces 1 (i:Nat))
 |none=>true
def slotsB (K:Ker):Bool:=(List.range K.slots.length).all fun i=>match K.slots[i]? with
 |some s=>slotB s (namers K.spaces 2 (i:Nat))
 |none=>true
def countsB (K:Ker):Bool:=decide (3≤K.frames.length∧K.frames.length≤64∧K.slots.length≤512∧1≤K.spaces.length∧K.spaces.length≤4∧K.sheets.length≤255)
def spacesB (K:Ker):Bool:=K.spaces.all (spaceB K.sheets K.frames.length K.slots.length)
def formB (K:Ker):Bool:=(riseB 0 K.sheets && decide (0≤K.hand∧K.hand < K.frames.length)) && (spacesB K && (decide (roomI K.spaces≤K.slots.length) && (framesB K && slotsB K)))
def checkK (K:Ker):Int:=if countsB K=true then (if formB K=true then 0 else 1) else 2
/-! where in a list that rises -/
def lbd (l:List Int) (t:Int):Nat:=(l.takeWhile fun p=>decide (p < t)).length
theorem lbd_le (l:List Int) (t:Int):lbd l t≤l.length:=by
 unfold lbd
 exact List.Sublist.length_le (List.takeWhile_sublist _)
theorem lbd_eq {l:List Int} {t:Int} {i:Nat} (hi:i≤l.length) (h1:∀ (j:Nat) (p:Int),j < i→l[j]?=some p→p < t) (h2:∀ (p:Int),l[i]?=some p→t≤p):lbd l t=i:=by
 unfold lbd
 induction l generalizing i with
 |nil=>simp at hi;subst hi;rfl
 |cons a l ih=>
  cases i with
  |zero=>
   have:=h2 a rfl
   rw [List.takeWhile_cons,if_neg (by simpa using this)]
   rfl
  |succ i=>
   have:=h1 0 a (by omega) rfl
   rw [List.takeWhile_cons,if_pos (by simpa using this),List.length_cons,ih (by simpa using hi) (fun j p hj hp=>h1 (j + 1) p (by omega) (by simpa using hp)) (fun p hp=>h2 p (by simpa using hp))]
def Rises (l:List Int):Prop:=l.Pairwise (·< ·)
theorem Rises.at_ {l:List Int} (h:Rises l) {i j:Nat} {a b:Int} (hij:i < j) (ha:l[i]?=some a) (hb:l[j]?=some b):a < b:=by
 obtain ⟨h1,rfl⟩:=List.getElem?_eq_some_iff.1 ha
 obtain ⟨h2,rfl⟩:=List.getElem?_eq_some_iff.1 hb
 exact List.pairwise_iff_getElem.1 h i j h1 h2 hij
theorem lbd_hit {l:List Int} (h:Rises l) {i:Nat} {t:Int} (hi:l[i]?=some t):lbd l t=i :=
 lbd_eq (Nat.le_of_lt (lt_of_getE hi)) (fun _ _ hj hp=>h.at_ hj hp hi) (fun p hp=>by rw [hi] at hp;cases hp;exact Int.le_refl _)
theorem lbd_find {l:List Int} (h:Rises l) (t:Int):(l[lbd l t]?=some t) ↔ t ∈ l:=by
 constructor
 ·intro hh;exact List.mem_of_getElem? hh
 ·intro hm
  obtain ⟨i,hi⟩:=List.mem_iff_getElem?.1 hm
  rw [lbd_hit h hi]
  exact hi
theorem idxI_hit {α:Type} {p:α→Bool} {l:List α} {k:Nat} {x:α} (h:(l.take k).all (fun y=>!p y)=true) (hx:l[k]?=some x) (hp:p x=true):idxI p l=(k:Nat):=by
 unfold idxI
 have:l.findIdx? p=some k:=by
  rw [List.findIdx?_eq_some_iff_getElem]
  obtain ⟨h1,rfl⟩:=List.getElem?_eq_some_iff.1 hx
  refine ⟨h1,hp,fun j hj=>?_⟩
  have:=List.all_eq_true.1 h l[j] (List.mem_iff_getElem?.2 ⟨j,by rw [List.getElem?_take];simp [hj]⟩)
  simpa using this
 rw [this]
theorem idxI_miss {α:Type} {p:α→Bool} {l:List α} {k:Nat} (h:(l.take k).all (fun y=>!p y)=true) (hk:l.length≤k):idxI p l=-1:=by
 unfold idxI
 rw [List.take_of_length_le hk] at h
 have:l.findIdx? p=none:=by
  rw [List.findIdx?_eq_none_iff]
  intro x hx
  have:=List.all_eq_true.1 h x hx
  simpa using this
 rw [this]
theorem idxI_neg {α:Type} {p:α→Bool} {l:List α}:decide (0≤idxI p l)=l.any p:=by
 unfold idxI
 cases h:l.findIdx? p with
 |none=>
  rw [List.findIdx?_eq_none_iff] at h
  symm
  rw [show decide (0≤(-1:Int))=false from rfl,List.any_eq_false]
  intro x hx
  simp [h x hx]
 |some i=>
  rw [List.findIdx?_eq_some_iff_getElem] at h
  obtain ⟨h1,h2,-⟩:=h
  rw [decide_eq_true (by omega:(0:Int)≤((i:Nat):Int))]
  symm
  rw [List.any_eq_true]
  exact ⟨l[i],by simp,h2⟩
end Go.Proofs.Ytejnpppejalhfac
/- THE STEP CALCULUS, part 14: regions that draw their order, operation by operation: what is pure is taken first, the rest in whatever order is left. -/
namespace Go.Proofs.Ytejnpppejalhfac
open Go.RowKit Go.Sort
section
variable {P:Program} {n:Nat} {ds:List Deferred} {E:Fr} {w:World} {Q:Exit→Act→World→Prop} {ops:Array Oper} {S:World→Prop} {fuel:Nat} {li:Array Bool} {d:Nat} {op:Op} {ty:TypeId} {pos:String} {after:Array Edge} {F:Nat→Prop} {w0:World} {Γ:List Asr} {T:Tab}
def WA (P:Program) (ops:Array Oper) (Q:Exit→Act→World→Prop) (S:World→Prop) (fuel:Nat) (li:Array Bool) (n:Nat) (ds:List Deferred) (E:Fr) (w:World):Prop:=∀ a,Has n ds a E→wpAnyH P .any ops Q S fuel li a w
def WO (P:Program) (ops:Array Oper) (Q:Exit→Act→World→Prop) (S:World→Prop) (fuel:Nat) (li:Array Bool) (n:Nat) (ds:List Deferred) (E:Fr) (w:World) (i:Nat):Prop:=∀ a,Has n ds a E→wpOp P ops Q i (fun a' w'=>S w'∧wpAnyH P .any ops Q S fuel (li.setIfInBounds i true) a' w') a w
theorem c_held (S:World→Prop) {id:Nat} {l:List Oper} (m:Nat) (hl:l.length=m) (hS:St F w0 w Γ) (hm:P.follows .mixedOrders=true) (h:∀ w1,St F w0 w1 Γ→WA P l.toArray Q S m (Array.replicate m false) n ds E w1):WC P (.region id l.toArray true) Q n ds E w:=fun a ha=>by
 subst hl
 exact wp_region_held (S:=S) hm (h { w with drawn:=w.drawn + 1 } (hS.grow ⟨rfl,rfl,rfl,Nat.le_refl _,fun _ _ _=>rfl⟩) a ha)
theorem a_done (hr:Region.ready .any ops li=[]) (h:WQ Q .normal n ds E w):WA P ops Q S fuel li n ds E w:=fun a ha=>wpAnyH_done hr (h a ha) fuel
theorem a_take {i:Nat} (_C:Nn i) {v:Value} (hT:TabOk P T) (hi:ops[i]?=some ⟨some d,op,ty,pos,after,none⟩) (hs:Region.noSelect ops=true) (hf:Region.free .any ops li i=true) (hr:(Region.ready .any ops li).contains i=true)
  (hQ:∀ c (a:Act) w,Q (.panic c) (a.put (some d) v) w→Q (.panic c) a w) (hS:S w) (hv:pureOp T E op=some v) (hd:Nat.blt d n=true) (k:WA P ops Q S fuel (li.setIfInBounds i true) n ds ((d,v)::E) w):WA P ops Q S (fuel + 1) li n ds E w:=fun a ha=>
 wpAnyH_take hi hs hf hr hQ (Or.inl ⟨rfl,fun w _=>pureOp_runs hT ha hv w⟩) hS (k _ (ha.put d v hd))
theorem a_takeL {i:Nat} (_C:Nn i) {t:TypeId} {x:Operand} {p:Addr} {v:Value} (hi:ops[i]?=some ⟨some d,.load t x,ty,pos,after,none⟩) (hs:Region.noSelect ops=true) (hf:Region.free .any ops li i=true) (hr:(Region.ready .any ops li).contains i=true)
  (hQ:∀ c (a:Act) w,Q (.panic c) (a.put (some d) v) w→Q (.panic c) a w) (hS:S w) (hx:E.ev x=some (.pointer (some p))) (hl:∀ w,S w→Loads P t p v w) (hd:Nat.blt d n=true) (k:WA P ops Q S fuel (li.setIfInBounds i true) n ds ((d,v)::E) w):WA P ops Q S (fuel + 1) li n ds E w:=fun a ha=>
 wpAnyH_take hi hs hf hr hQ (Or.inl ⟨rfl,fun w hw=>by
  have h:=hl w hw
  unfold Loads at h
  simp only [execOp,ha.ev hx,Instr.loadAt,Instr.sureAddr,Sem.run_bind,Sem.run_pure,Result.andThen_ok,h]⟩) hS (k _ (ha.put d v hd))
theorem a_one {i:Nat} (hr:Region.ready .any ops li=[i]) (h:WO P ops Q S fuel li n ds E w i):WA P ops Q S (fuel + 1) li n ds E w:=fun a ha=>
 wpAnyH_all hr (by simp) (fun j hj=>by
  have:j=i:=by simpa using hj
  subst this
  exact h a ha)
theorem a_two {i j:Nat} (hr:Region.ready .any ops li=[i,j]) (h1:WO P ops Q S fuel li n ds E w i) (h2:WO P ops Q S fuel li n ds E w j):WA P ops Q S (fuel + 1) li n ds E w:=fun a ha=>
 wpAnyH_all hr (by simp) (fun k hk=>by
  have:k=i∨k=j:=by simpa using hk
  rcases this with rfl|rfl
  ·exact h1 a ha
  ·exact h2 a ha)
theorem o_gets {i:Nat} {Φ:Value→World→Prop} (hi:ops[i]?=some ⟨some d,op,ty,pos,after,none⟩) (h:Gets P ⟨some d,op,ty,pos,after,none⟩ n ds E w Φ) (hd:Nat.blt d n=true) (k:∀ v w',Φ v w'→S w'∧WA P ops Q S fuel (li.setIfInBounds i true) n ds ((d,v)::E) w'):WO P ops Q S fuel li n ds E w i:=fun a ha=>by
 unfold wpOp
 simp only [hi]
 rw [if_pos (show Region.wanted _ _=true from rfl)]
 exact Or.inl (h a ha _ _ fun v w' hv=>⟨(k v w' hv).1,(k v w' hv).2 _ (ha.put d v hd)⟩)
theorem o_gets0 {i:Nat} {Φ:Value→World→Prop} (hi:ops[i]?=some ⟨none,op,ty,pos,after,none⟩) (h:Gets P ⟨none,op,ty,pos,after,none⟩ n ds E w Φ) (k:∀ v w',Φ v w'→S w'∧WA P ops Q S fuel (li.setIfInBounds i true) n ds E w'):WO P ops Q S fuel li n ds E w i:=fun a ha=>by
 unfold wpOp
 simp only [hi]
 rw [if_pos (show Region.wanted _ _=true from rfl)]
 exact Or.inl (h a ha _ _ fun v w' hv=>⟨(k v w' hv).1,(k v w' hv).2 _ ha⟩)
end
end Go.Proofs.Ytejnpppejalhfac
/- THE STEP CALCULUS, part 15: calls that may panic; panics of the text's own; slices of strings. -/
namespace Go.Proofs.Ytejnpppejalhfac
open Go.RowKit Go.Sort
def RP (c:List PanicEntry) (Φ:Value→World→Prop) (Ψ:World→Prop) (e:Ending) (w':World):Prop:=(∃ v,e=.returned v∧Φ v w')∨(e=.panicked c∧Ψ w')
structure FnP (P:Program) (f:FuncId) (args:List Value) (w:World) (c:List PanicEntry) (Φ:Value→World→Prop) (Ψ:World→Prop):Prop where
 ok:∃ fn,CallOk P f fn
 calls:Calls P f args.toArray w (RP c Φ Ψ)
section
variable {P:Program} {n:Nat} {ds:List Deferred} {E:Fr} {w:World} {Q:Exit→Act→World→Prop} {ops:Array Oper} {rest:List Oper} {d:Nat} {dst:Option Nat} {op:Op} {ty:TypeId} {pos:String} {after:Array Edge} {T:Tab} {c:List PanicEntry}
theorem FnP.mono {f:FuncId} {args:List Value} {Φ Φ':Value→World→Prop} {Ψ Ψ':World→Prop} (h:FnP P f args w c Φ Ψ) (h1:∀ v w',Φ v w'→Φ' v w') (h2:∀ w',Ψ w'→Ψ' w'):FnP P f args w c Φ' Ψ' :=
 ⟨h.ok,h.calls.mono fun _ _ h=>by
  rcases h with ⟨v,e,hv⟩|⟨e,hw⟩
  ·exact Or.inl ⟨v,e,h1 v _ hv⟩
  ·exact Or.inr ⟨e,h2 _ hw⟩⟩
end
section
variable {P:Program} {n:Nat} {E:Fr} {w:World} {c:List PanicEntry} {fn:Func} {Φ:Value→World→Prop} {Ψ:World→Prop} {v v1 v2:Value}
end
end Go.Proofs.Ytejnpppejalhfac
/- THE STEP CALCULUS, part 16: slices of strings; deferred closures; a panic that is caught. -/
namespace Go.Proofs.Ytejnpppejalhfac
open Go.RowKit Go.Sort
section
variable {P:Program} {n:Nat} {ds:List Deferred} {E:Fr} {w:World} {Q:Exit→Act→World→Prop} {ops:Array Oper} {rest:List Oper} {d:Nat} {dst:Option Nat} {op:Op} {ty:TypeId} {pos:String} {after:Array Edge} {T:Tab}
theorem str_extract (l:List UInt8) (a b:Nat):(⟨l.toArray⟩:ByteArray).extract a b=⟨((l.drop a).take (b - a)).toArray⟩:=ByteArray.extract_mk l a b
theorem r_strFrom (hT:TabOk P T) {t sz:Nat} {z:Value} {x lo:Operand} {kk:IntKind} {l:List UInt8} {i:Int} (ht:T.get t=some (.sc .string sz z)) (hx:E.ev x=some (.string ⟨l.toArray⟩)) (hlo:E.ev lo=some (.int kk i)) (h0:0≤i) (h1:i≤l.length):∀ a,Has n ds a E→∀ dst,Runs P ⟨dst,.slice t x (some lo) none none,ty,pos,after,none⟩ a (.string ⟨(l.drop i.toNat).toArray⟩):=fun a ha _ w=>by
 obtain ⟨_,hu,_⟩:=hT.sc ht
 have hs:(⟨l.toArray⟩:ByteArray).size=l.length:=rfl
 simp only [execOp,ha.ev hx,Option.map_some,ha.ev hlo,Option.map_none]
 simp only [Sem.run_bind,run_sliceAt_string w t _ _ _ _ hu,run_slice_string_l w t ⟨l.toArray⟩ hu kk i h0 (by rw [hs];exact h1),Result.andThen_ok,Sem.run_pure,str_extract,hs]
 rw [List.take_of_length_le (by simp)]
theorem r_strTo (hT:TabOk P T) {t sz:Nat} {z:Value} {x hi:Operand} {kk:IntKind} {l:List UInt8} {j:Int} (ht:T.get t=some (.sc .string sz z)) (hx:E.ev x=some (.string ⟨l.toArray⟩)) (hhi:E.ev hi=some (.int kk j)) (h0:0≤j) (h1:j≤l.length):∀ a,Has n ds a E→∀ dst,Runs P ⟨dst,.slice t x none (some hi) none,ty,pos,after,none⟩ a (.string ⟨(l.take j.toNat).toArray⟩):=fun a ha _ w=>by
 obtain ⟨_,hu,_⟩:=hT.sc ht
 have hs:(⟨l.toArray⟩:ByteArray).size=l.length:=rfl
 simp only [execOp,ha.ev hx,Option.map_some,ha.ev hhi,Option.map_none]
 simp only [Sem.run_bind,run_sliceAt_string w t _ _ _ _ hu,run_slice_string_h w t ⟨l.toArray⟩ hu kk j h0 (by rw [hs];exact h1),Result.andThen_ok,Sem.run_pure,str_extract,List.drop_zero,Nat.sub_zero]
theorem r_strSub (hT:TabOk P T) {t sz:Nat} {z:Value} {x lo hi:Operand} {k1 k2:IntKind} {l:List UInt8} {i j:Int} (ht:T.get t=some (.sc .string sz z)) (hx:E.ev x=some (.string ⟨l.toArray⟩)) (hlo:E.ev lo=some (.int k1 i)) (hhi:E.ev hi=some (.int k2 j)) (h0:0≤i) (h1:i≤j) (h2:j≤l.length):∀ a,Has n ds a E→∀ dst,Runs P ⟨dst,.slice t x (some lo) (some hi) none,ty,pos,after,none⟩ a (.string ⟨((l.drop i.toNat).take (j.toNat - i.toNat)).toArray⟩):=fun a ha _ w=>by
 obtain ⟨_,hu,_⟩:=hT.sc ht
 have hs:(⟨l.toArray⟩:ByteArray).size=l.length:=rfl
 simp only [execOp,ha.ev hx,Option.map_some,ha.ev hlo,ha.ev hhi,Option.map_none]
 simp only [Sem.run_bind,run_sliceAt_string w t _ _ _ _ hu,run_slice_string w t ⟨l.toArray⟩ k1 k2 i j hu h0 h1 (by rw [hs];exact h2),Result.andThen_ok,Sem.run_pure,str_extract]
theorem l_strFrom (hT:TabOk P T) {t sz:Nat} {z:Value} {x lo:Operand} {kk:IntKind} {l:List UInt8} {i:Int} (ht:T.get t=some (.sc .string sz z)) (hx:E.ev x=some (.string ⟨l.toArray⟩)) (hlo:E.ev lo=some (.int kk i)) (h0:0≤i) (h1:i≤l.length) (hd:Nat.blt d n=true) (k:WL P ops Q rest n ds ((d,.string ⟨(l.drop i.toNat).toArray⟩)::E) w):WL P ops Q (⟨some d,.slice t x (some lo) none none,ty,pos,after,none⟩::rest) n ds E w:=l_runs (fun a ha=>r_strFrom hT ht hx hlo h0 h1 a ha _) hd k
theorem l_strTo (hT:TabOk P T) {t sz:Nat} {z:Value} {x hi:Operand} {kk:IntKind} {l:List UInt8} {j:Int} (ht:T.get t=some (.sc .string sz z)) (hx:E.ev x=some (.string ⟨l.toArray⟩)) (hhi:E.ev hi=some (.int kk j)) (h0:0≤j) (h1:j≤l.length) (hd:Nat.blt d n=true) (k:WL P ops Q rest n ds ((d,.string ⟨(l.take j.toNat).toArray⟩)::E) w):WL P ops Q (⟨some d,.slice t x none (some hi) none,ty,pos,after,none⟩::rest) n ds E w:=l_runs (fun a ha=>r_strTo hT ht hx hhi h0 h1 a ha _) hd k
end
/-! a function that defers one closure -/
section
variable {P:Program} {n:Nat} {E:Fr} {w:World} {fn:Func} {Φ:Value→World→Prop}
end
end Go.Proofs.Ytejnpppejalhfac
