/- Texts that the proof stands on, one behind the other: Sc25, Sc26, PlKer3, PlRun, Ke13, Ke14, Ke15. -/
import Derived.Laws.CopyRow
import Derived.Laws.Slices
import Derived.Lib.AppendZerosOnto
import Derived.Lib.Overlaps
import Derived.Laws.Externs
import Derived.Test.YtejnpppejalhfacPKernelEmpty8
/- THE STEP CALCULUS, part 25: slices of slices of one's own; copy, clear, append of zeros. -/
namespace Go.Proofs.Ytejnpppejalhfac
open Go.RowKit Go.Sort
section
variable {P:Program} {n:Nat} {ds:List Deferred} {E:Fr} {w w':World} {Q:Exit→Act→World→Prop} {ops:Array Oper} {rest:List Oper} {d:Nat} {dst:Option Nat} {ty:TypeId} {pos:String} {after:Array Edge} {F:Nat→Prop} {w0:World} {Γ:List Asr} {T:Tab}
theorem b2V (g o k:Nat):(⟨g,o,none⟩:Addr).add k=⟨g,o + k,none⟩:=by unfold Addr.add;split <;> simp_all
/-! slices of slices -/
theorem a70 (hT:TabOk P T) {t el sz eb b off m c j:Nat} {ag:Bool} {z:List Value} {x y:Operand} {i:Int} (ht:T.get t=some (.sl el sz eb ag z)) (hx:E.ev x=some (.slice (some ⟨b,off,none⟩) m c)) (hy:E.ev y=some (.int .i64 i)) (hj:(j:Int)=i) (hm:j≤m) (hc:j < c):∀ a,Has n ds a E→∀ dst,a0I P ⟨dst,.slice t x (some y) none none,ty,pos,after,none⟩ a (.slice (some ⟨b,off + j * sz,none⟩) (m - j) (c - j)):=fun a ha _ w=>by
 obtain ⟨ji,zv,hu,hinfo,_,hs,_⟩:=hT.sl ht
 subst hj
 have hb:(Instr.sliceBounds true m c (some (.int .i64 (j:Int))) none none).run P w=.ok (j,m,c) w:=by
  simp [Instr.sliceBounds,run_sliceBound,hm]
 simp only [execOp,ha.ev hx,ha.ev hy,Option.map_some,Option.map_none]
 simp [Instr.sliceAt,Instr.slice,run_underlying hu,hb,sizeOf,typeInfo,hinfo,hs,show ¬ c=j by omega,b2V]
theorem b17 (hT:TabOk P T) {t el sz eb m c j:Nat} {p:Option Addr} {ag:Bool} {z:List Value} {x y:Operand} {i:Int} (ht:T.get t=some (.sl el sz eb ag z)) (hx:E.ev x=some (.slice p m c)) (hy:E.ev y=some (.int .i64 i)) (hj:(j:Int)=i) (hm:j≤c):∀ a,Has n ds a E→∀ dst,a0I P ⟨dst,.slice t x none (some y) none,ty,pos,after,none⟩ a (.slice p j c):=fun a ha _ w=>by
 obtain ⟨ji,zv,hu,hinfo,_,hs,_⟩:=hT.sl ht
 subst hj
 have hb:(Instr.sliceBounds true m c none (some (.int .i64 (j:Int))) none).run P w=.ok (0,j,c) w:=by
  simp [Instr.sliceBounds,run_sliceBound,hm]
 simp only [execOp,ha.ev hx,ha.ev hy,Option.map_some,Option.map_none]
 simp [Instr.sliceAt,Instr.slice,run_underlying hu,hb,sizeOf,typeInfo,hinfo,hs]
 intro _
 cases p with
 |none=>rfl
 |some a=>simp [Addr.add]
theorem a39 (hT:TabOk P T) {t el sz eb b off m c j:Nat} {ag:Bool} {z:List Value} {x y:Operand} {i:Int} (ht:T.get t=some (.sl el sz eb ag z)) (hx:E.ev x=some (.slice (some ⟨b,off,none⟩) m c)) (hy:E.ev y=some (.int .i64 i)) (hj:(j:Int)=i) (hm:j≤m) (hc:j < c) (hd:Nat.blt d n=true) (k':WL P ops Q rest n ds ((d,.slice (some ⟨b,off + j * sz,none⟩) (m - j) (c - j))::E) w):WL P ops Q (⟨some d,.slice t x (some y) none none,ty,pos,after,none⟩::rest) n ds E w:=z8 (fun a ha=>a70 hT ht hx hy hj hm hc a ha _) hd k'
theorem a5n (hT:TabOk P T) {t el sz eb m c j:Nat} {p:Option Addr} {ag:Bool} {z:List Value} {x y:Operand} {i:Int} (ht:T.get t=some (.sl el sz eb ag z)) (hx:E.ev x=some (.slice p m c)) (hy:E.ev y=some (.int .i64 i)) (hj:(j:Int)=i) (hm:j≤c) (hd:Nat.blt d n=true) (k':WL P ops Q rest n ds ((d,.slice p j c)::E) w):WL P ops Q (⟨some d,.slice t x none (some y) none,ty,pos,after,none⟩::rest) n ds E w:=z8 (fun a ha=>b17 hT ht hx hy hj hm a ha _) hd k'
theorem a4f {C:World→Prop} {K:Act→Prop} (hT:TabOk P T) {t el sz eb b off m c j:Nat} {ag:Bool} {z:List Value} {x y:Operand} {i:Int} (ht:T.get t=some (.sl el sz eb ag z)) (hx:E.ev x=some (.slice (some ⟨b,off,none⟩) m c)) (hy:E.ev y=some (.int .i64 i)) (hj:(j:Int)=i) (hm:j≤m) (hc:j < c) (hd:Nat.blt d n=true) (k':WD P ops C K rest n ds ((d,.slice (some ⟨b,off + j * sz,none⟩) (m - j) (c - j))::E)):WD P ops C K (⟨some d,.slice t x (some y) none none,ty,pos,after,none⟩::rest) n ds E:=a1k (fun a ha=>a70 hT ht hx hy hj hm hc a ha _) hd k'
theorem b58 (hT:TabOk P T) {t el sz eb m c:Nat} {p:Option Addr} {ag:Bool} {z:List Value} {x:Operand} (ht:T.get t=some (.sl el sz eb ag z)) (hx:E.ev x=some (.slice p m c)):∀ a,Has n ds a E→∀ dst,a0I P ⟨dst,.call { callee:=.builtin .cap,args:=#[x],argTypes:=#[t] },ty,pos,after,none⟩ a (.int .i64 (c:Nat)):=fun a ha _ w=>by
 obtain ⟨ji,zv,hu,_⟩:=hT.sl ht
 have hr:(Builtin.cap_ #[t] ty #[.slice p m c]).run P w=.ok (.int .i64 (c:Nat)) w:=by
  simp [Builtin.cap_,run_underlying hu,goInt]
 simp [execOp,resolve,invoke,builtin,ha.ev hx,hr,Result.andThen]
theorem b4L (hT:TabOk P T) {t el sz eb m c:Nat} {p:Option Addr} {ag:Bool} {z:List Value} {x:Operand} (ht:T.get t=some (.sl el sz eb ag z)) (hx:E.ev x=some (.slice p m c)) (hd:Nat.blt d n=true) (k':WL P ops Q rest n ds ((d,.int .i64 (c:Nat))::E) w):WL P ops Q (⟨some d,.call { callee:=.builtin .cap,args:=#[x],argTypes:=#[t] },ty,pos,after,none⟩::rest) n ds E w:=z8 (fun a ha=>b58 hT ht hx a ha _) hd k'
/-! rows laid over a row of one's own -/
def a0G (rows news:List (List Value)) (k:Nat):List (List Value):=rows.take k++(news++rows.drop (k + news.length))
theorem a1T {rows news:List (List Value)} {k:Nat} (hk:k≤rows.length):(a0G rows news k).length=max rows.length (k + news.length):=by
 unfold a0G
 rw [List.length_append,List.length_append,List.length_take,List.length_drop]
 omega
theorem a4z {rows:List (List Value)} {sz:Nat} (hs:∀ r ∈ rows,r.length=sz) (k:Nat):rows.flatten.take (k * sz)=(rows.take k).flatten:=by
 have h1:rows.flatten=(rows.take k).flatten++(rows.drop k).flatten:=by rw [← List.flatten_append,List.take_append_drop]
 by_cases hk:k≤rows.length
 ·have hl:(rows.take k).flatten.length=k * sz:=by
   rw [s8 (fun r hr=>hs r (List.mem_of_mem_take hr)),List.length_take]
   congr 1;omega
  rw [h1,List.take_left' hl]
 ·rw [List.take_of_length_le (by rw [s8 hs];exact Nat.mul_le_mul_right _ (by omega)),List.take_of_length_le (l:=rows) (by omega)]
theorem b1A {rows:List (List Value)} {sz:Nat} (hs:∀ r ∈ rows,r.length=sz) (k:Nat):rows.flatten.drop (k * sz)=(rows.drop k).flatten:=by
 have h1:rows.flatten=(rows.take k).flatten++(rows.drop k).flatten:=by rw [← List.flatten_append,List.take_append_drop]
 by_cases hk:k≤rows.length
 ·have hl:(rows.take k).flatten.length=k * sz:=by
   rw [s8 (fun r hr=>hs r (List.mem_of_mem_take hr)),List.length_take]
   congr 1;omega
  rw [h1,List.drop_left' hl]
 ·rw [List.drop_of_length_le (by rw [s8 hs];exact Nat.mul_le_mul_right _ (by omega)),List.drop_of_length_le (l:=rows) (by omega)]
  rfl
theorem a5k {e sz g m cap k:Nat} {rows news:List (List Value)} (h:Asr.holds w (.row e sz (.slice (some ⟨g,0,none⟩) m cap) rows)) (hk:k≤rows.length) (hn:k + news.length≤cap) (hs:∀ r ∈ news,r.length=sz) (h1:∀ r ∈ news,r.all (·.oneCell')=true) :
  ∃ w',(storeCells ⟨g,k * sz,none⟩ news.flatten).run P w=.ok () w'∧w.grownBy w' (some g)∧Asr.holds w' (.row e sz (.slice (some ⟨g,0,none⟩) (a0G rows news k).length cap) (a0G rows news k)):=by
 obtain ⟨ho,hlen,hone⟩:=h
 rcases ho.2 with ⟨he,_⟩|⟨g',cap',cur,hv,_,hg,hnc,hcm,hcs,htake⟩
 ·cases he
 cases hv
 have hsl:news.flatten.length=news.length * sz:=s8 hs
 have hfit:k * sz + news.flatten.length≤cur.size:=by
  rw [hsl,hcs,← Nat.add_mul]
  exact Nat.mul_le_mul_right _ hn
 have hst:=run_storeCells_at P g (k * sz) e news.flatten 0 cur w hg (by simpa using hfit) (fun v hv=>by
  obtain ⟨r,hr,hur⟩:=List.mem_flatten.1 hv
  exact List.all_eq_true.1 (h1 r hr) v hur)
 refine ⟨_,hst,⟨rfl,rfl,rfl,by simp [World.setRow,World.heap],fun j hj hne=>?_⟩,⟨⟨s8 (fun r hr=>?_),.inr ⟨g,cap,_,rfl,Nat.zero_le _,setRow_heap w g cur _ e (0,0) hg,?_,hcm,?_,?_⟩⟩,fun r hr=>?_,fun r hr=>?_⟩⟩
 ·have:g≠j:=fun e=>hne (by rw [e])
  simp [World.setRow,Array.getElem?_modify,this]
 ·unfold a0G at hr
  rcases List.mem_append.1 hr with hr|hr
  ·exact hlen r (List.mem_of_mem_take hr)
  ·rcases List.mem_append.1 hr with hr|hr
   ·exact hs r hr
   ·exact hlen r (List.mem_of_mem_drop hr)
 ·rw [a1T hk]
  omega
 ·rw [hsl] at hfit ⊢
  simp only [List.size_toArray,List.length_append,List.length_take,List.length_drop,Array.length_toList,Nat.add_zero,hsl]
  omega
 ·have hcl:cur.toList.length=cap * sz:=by simpa using hcs
  have hct:cur.toList.take (k * sz)=(rows.take k).flatten:=by
   rw [← a4z hlen,← htake,List.take_take]
   congr 1
   exact (Nat.min_eq_left (Nat.mul_le_mul_right _ hk)).symm
  have hrl:(rows.take k).flatten.length=k * sz:=by
   rw [s8 (fun r hr=>hlen r (List.mem_of_mem_take hr)),List.length_take]
   congr 1;omega
  simp only [Nat.add_zero,List.toList_toArray]
  rw [hct,a1T hk,List.append_assoc]
  unfold a0G
  rw [List.flatten_append,List.flatten_append]
  rw [List.take_append,List.take_of_length_le (l:=(rows.take k).flatten) (by rw [hrl];exact Nat.mul_le_mul_right _ (by omega)),hrl]
  congr 1
  rw [List.take_append,List.take_of_length_le (l:=news.flatten) (by rw [hsl,← Nat.sub_mul];exact Nat.mul_le_mul_right _ (by omega)),hsl]
  congr 1
  by_cases hc:k + news.length≤rows.length
  ·rw [show max rows.length (k + news.length)=rows.length by omega,← Nat.sub_mul,← Nat.sub_mul,← b1A hlen,← htake]
   rw [show k * sz + news.length * sz=(k + news.length) * sz by rw [Nat.add_mul],List.drop_take,← Nat.sub_mul]
   congr 2
   omega
  ·rw [show max rows.length (k + news.length)=k + news.length by omega,List.drop_of_length_le (l:=rows) (by omega)]
   rw [← Nat.sub_mul,← Nat.sub_mul,show k + news.length - k - news.length=0 by omega]
   simp
 ·unfold a0G at hr
  rcases List.mem_append.1 hr with hr|hr
  ·exact hlen r (List.mem_of_mem_take hr)
  ·rcases List.mem_append.1 hr with hr|hr
   ·exact hs r hr
   ·exact hlen r (List.mem_of_mem_drop hr)
 ·unfold a0G at hr
  rcases List.mem_append.1 hr with hr|hr
  ·exact hone r (List.mem_of_mem_take hr)
  ·rcases List.mem_append.1 hr with hr|hr
   ·exact h1 r hr
   ·exact hone r (List.mem_of_mem_drop hr)
theorem a7G (hS:St F w0 w Γ) (hT:TabOk P T) {t e sz eb g m cap k dl dc b off sl sc i:Nat} {ag:Bool} {ez:List Value} {x y:Operand} {rows news:List (List Value)} (ht:T.get t=some (.sl e sz eb ag ez)) (hx:E.ev x=some (.slice (some ⟨g,0 + k * sz,none⟩) dl dc)) (hi:Γ[i]?=some (.row e sz (.slice (some ⟨g,0,none⟩) m cap) rows)) (hy:E.ev y=some (.slice (some ⟨b,off,none⟩) sl sc)) (hn:RoAt nF w b off sz news) (hnl:news.length=min sl dl) (hk:k≤rows.length) (hc:k + news.length≤cap) :
  Gets P ⟨dst,.call { callee:=.builtin .copy,args:=#[x,y],argTypes:=#[t,t] },ty,pos,after,none⟩ n ds E w (fun v' w'=>v'=.int .i64 (news.length:Nat)∧St F w0 w' (Γ.set i (.row e sz (.slice (some ⟨g,0,none⟩) (a0G rows news k).length cap) (a0G rows news k)))):=by
 intro a ha K Q kk
 obtain ⟨ji,zv,hu,hinfo,_,hs,_,_,_,_,hsz,hs0⟩:=hT.sl ht
 obtain ⟨w',hst,hg,hh⟩:=a5k (P:=P) (hS.at_ hi) hk hc hn.len hn.one
 have hl:(loadCells ⟨b,off,none⟩ (news.length * sz)).run P w=.ok news.flatten.toArray w:=by
  have:=run_loadCells_list (P:=P) w ⟨b,off,none⟩ news.flatten (fun j u hj=>by
   have hjl:j < news.length * sz:=by rw [← s8 hn.len];exact j3 hj
   have hdiv:j / sz < news.length:=Nat.div_lt_of_lt_mul (by rw [Nat.mul_comm];exact hjl)
   have hmod:=Nat.mod_lt j (Nat.pos_of_ne_zero hs0)
   have h3:=a3x hn.len (i:=j / sz) (j:=j % sz) (List.getElem?_eq_getElem hdiv) hmod
   rw [show j / sz * sz + j % sz=j from by rw [Nat.mul_comm];exact Nat.div_add_mod j sz] at h3
   rw [h3] at hj
   have:=hn.cells (j / sz) _ (List.getElem?_eq_getElem hdiv) (j % sz) u hj
   rw [Addr.add_mid]
   rwa [Nat.add_assoc,show j / sz * sz + j % sz=j from by rw [Nat.mul_comm];exact Nat.div_add_mod j sz] at this)
  rwa [s8 hn.len] at this
 rw [Nat.zero_add] at hx
 have hrun:(Builtin.copy_ #[t,t] ty #[.slice (some ⟨g,k * sz,none⟩) dl dc,.slice (some ⟨b,off,none⟩) sl sc]).run P w=.ok (.int .i64 (news.length:Nat)) w':=by
  have hmin:Nat.min sl dl=news.length:=hnl.symm
  simp [Builtin.copy_,run_underlying hu,Builtin.lenOf,Builtin.firstCells,sizeOf,typeInfo,hinfo,hs,hmin,hl,hst,goInt]
 have hex:(execOp a.eval ⟨dst,.call { callee:=.builtin .copy,args:=#[x,y],argTypes:=#[t,t] },ty,pos,after,none⟩).run P w=.ok (.value (.int .i64 (news.length:Nat))) w':=by
  simp [execOp,resolve,invoke,builtin,ha.ev hx,ha.ev hy,hrun,Result.andThen]
 unfold Oper.wp
 rw [hex]
 exact kk _ _ ⟨rfl,hS.upd hi hg hh (fun q hq=>Or.inl hq)⟩
theorem b3K (hS:St F w0 w Γ) (hT:TabOk P T) {t e sz eb g m cap k dl dc i:Nat} {ag:Bool} {ez:List Value} {x:Operand} {rows:List (List Value)} (ht:T.get t=some (.sl e sz eb ag ez)) (hx:E.ev x=some (.slice (some ⟨g,0 + k * sz,none⟩) dl dc)) (hi:Γ[i]?=some (.row e sz (.slice (some ⟨g,0,none⟩) m cap) rows)) (hdl:0 < dl) (hk:k≤rows.length) (hc:k + dl≤cap) (h1:ez.all (·.oneCell')=true) :
  Gets P ⟨dst,.call { callee:=.builtin .clear,args:=#[x],argTypes:=#[t] },ty,pos,after,none⟩ n ds E w (fun v' w'=>St F w0 w' (Γ.set i (.row e sz (.slice (some ⟨g,0,none⟩) (a0G rows (List.replicate dl ez) k).length cap) (a0G rows (List.replicate dl ez) k)))):=by
 intro a ha K Q kk
 obtain ⟨ji,zv,hu,hinfo,_,hs,_,hz,hzl,_,hsz,hs0⟩:=hT.sl ht
 obtain ⟨w',hst,hg,hh⟩:=a5k (P:=P) (news:=List.replicate dl ez) (hS.at_ hi) hk (by rw [List.length_replicate];exact hc) (fun r hr=>by rw [List.eq_of_mem_replicate hr,hsz]) (fun r hr=>by rw [List.eq_of_mem_replicate hr];exact h1)
 have hzc:(Builtin.zeroCells zv.cells dl).toList=(List.replicate dl ez).flatten:=by
  have hzs:zv.cells.size=sz:=by rw [← Array.length_toList,hzl,hsz]
  have hfl:(List.replicate dl ez).flatten.length=dl * sz:=by rw [s8 (size:=sz) (fun r hr=>by rw [List.eq_of_mem_replicate hr,hsz]),List.length_replicate]
  refine List.ext_getElem? fun j=>?_
  unfold Builtin.zeroCells
  rw [hzs]
  by_cases hj:j < dl * sz
  ·have hdiv:j / sz < (List.replicate dl ez).length:=by rw [List.length_replicate];exact Nat.div_lt_of_lt_mul (by rw [Nat.mul_comm];exact hj)
   have hmod:=Nat.mod_lt j (Nat.pos_of_ne_zero hs0)
   have h3:=a3x (rows:=List.replicate dl ez) (size:=sz) (fun r hr=>by rw [List.eq_of_mem_replicate hr,hsz]) (i:=j / sz) (j:=j % sz) (List.getElem?_eq_getElem hdiv) hmod
   rw [show j / sz * sz + j % sz=j from by rw [Nat.mul_comm];exact Nat.div_add_mod j sz] at h3
   rw [h3,List.getElem_replicate]
   have hml:j % sz < zv.cells.size:=by rw [hzs];exact hmod
   simp [hj,hml,← hzl]
  ·rw [List.getElem?_eq_none (by simp;omega),List.getElem?_eq_none (by rw [hfl];omega)]
 rw [Nat.zero_add] at hx
 have hrun:(Builtin.clear_ #[t] ty #[.slice (some ⟨g,k * sz,none⟩) dl dc]).run P w=.ok (.tuple #[]) w':=by
  obtain ⟨q,rfl⟩:∃ q,dl=q + 1:=⟨dl - 1,by omega⟩
  simp [Builtin.clear_,run_underlying hu,zeroValue,typeInfo,hinfo,hz,hzc,hst]
 have hex:(execOp a.eval ⟨dst,.call { callee:=.builtin .clear,args:=#[x],argTypes:=#[t] },ty,pos,after,none⟩).run P w=.ok (.value (.tuple #[])) w':=by
  simp [execOp,resolve,invoke,builtin,ha.ev hx,hrun,Result.andThen]
 unfold Oper.wp
 rw [hex]
 exact kk _ _ (hS.upd hi hg hh (fun q hq=>Or.inl hq))
theorem RoAt.drop {G:Nat→Prop} {b off sz:Nat} {rows:List (List Value)} (h:RoAt G w b off sz rows) (k:Nat):RoAt G w b (off + k * sz) sz (rows.drop k) :=
 ⟨h.lt,h.nf,fun r hr=>h.len r (List.mem_of_mem_drop hr),fun r hr=>h.one r (List.mem_of_mem_drop hr),fun i r hr j u hj=>by
  rw [List.getElem?_drop] at hr
  have:=h.cells (k + i) r hr j u hj
  rwa [show off + k * sz + i * sz + j=off + (k + i) * sz + j by rw [Nat.add_mul];omega]⟩
theorem St.shrink (hS:St F w0 w Γ) (i:Nat) {e sz g m cap:Nat} {rows:List (List Value)} (k:Nat) (hi:Γ[i]?=some (.row e sz (.slice (some ⟨g,0,none⟩) m cap) rows)) (hk:k≤rows.length):St F w0 w (Γ.set i (.row e sz (.slice (some ⟨g,0,none⟩) k cap) (rows.take k))):=by
 refine hS.upd hi ⟨rfl,rfl,rfl,Nat.le_refl _,fun _ _ _=>rfl⟩ ?_ (fun q hq=>Or.inl hq)
 obtain ⟨ho,hlen,hone⟩:=hS.at_ hi
 rcases ho.2 with ⟨he,_⟩|⟨g',cap',cur,hv,_,hg,hnc,hcm,hcs,htake⟩
 ·cases he
 cases hv
 refine ⟨⟨s8 (fun r hr=>hlen r (List.mem_of_mem_take hr)),.inr ⟨g,cap,cur,by rw [List.length_take,Nat.min_eq_left hk],Nat.zero_le _,hg,by rw [List.length_take];omega,hcm,hcs,?_⟩⟩,fun r hr=>hlen r (List.mem_of_mem_take hr),fun r hr=>hone r (List.mem_of_mem_take hr)⟩
 rw [List.length_take,Nat.min_eq_left hk,← a4z hlen,← htake,List.take_take,Nat.min_eq_left (Nat.mul_le_mul_right _ hk)]
theorem b0X (hS:St F w0 w Γ) (hT:TabOk P T) {t tn e sz eb g m cap k q sz2 i:Nat} {z2:Value} {ag:Bool} {ez:List Value} {x y:Operand} {rows:List (List Value)} {jj:Int} (ht:T.get t=some (.sl e sz eb ag ez)) (htn:T.get tn=some (.sc (.int .i64) sz2 z2)) (hx:E.ev x=some (.slice (some ⟨g,0,none⟩) k cap)) (hy:E.ev y=some (.int .i64 jj)) (hjj:(q:Int)=jj) (hi:Γ[i]?=some (.row e sz (.slice (some ⟨g,0,none⟩) m cap) rows)) (hk:k≤rows.length) (hq:0 < q) (hc:cap < k + q) (hbig:(k + q) * (eb + 1)≤140737488355328) (h1:ez.all (·.oneCell')=true) :
  Gets P ⟨dst,.call { callee:=.builtin .append,args:=#[x,y],argTypes:=#[t,tn] },ty,pos,after,none⟩ n ds E w (fun v' w'=>∃ g2 cap2,v'=.slice (some ⟨g2,0,none⟩) (k + q) cap2∧k + q≤cap2∧St F w0 w' (.row e sz (.slice (some ⟨g2,0,none⟩) (k + q) cap2) (rows.take k++List.replicate q ez)::Γ)):=by
 intro a ha K Q kk
 subst hjj
 obtain ⟨ji,zv,hu,hinfo,_,hs,hby,hz,hzl,_,hsz,hs0⟩:=hT.sl ht
 obtain ⟨_,hun,_⟩:=hT.sc htn
 have hro:=hS.rowRo i hi
 obtain ⟨ho,hlen,hone⟩:=hS.at_ hi
 have hb1:(k + q) * eb + (k + q)≤140737488355328:=by rw [Nat.mul_succ] at hbig;exact hbig
 have hold:(Builtin.firstCells ji.size k (.slice (some ⟨g,0,none⟩) k cap)).run P w.drew=.ok (rows.take k).flatten.toArray w.drew:=by
  rw [hs]
  refine run_firstCells_some w.drew sz k ⟨g,0,none⟩ k cap (rows.take k).flatten ?_ (fun j u hj=>?_)
  ·rw [s8 (fun r hr=>hlen r (List.mem_of_mem_take hr)),List.length_take,Nat.min_eq_left hk]
  ·rw [← a4z hlen,List.getElem?_take] at hj
   split at hj
   ·have:=ho.cells (g:=g) rfl j u hj
    exact this
   ·cases hj
 have hqe:q * eb≤281474976710656:=by
  have:=Nat.mul_le_mul_right eb (show q≤k + q by omega)
  omega
 have hzs:zv.cells.size=sz:=by rw [← Array.length_toList,hzl,hsz]
 have hrun:=Go.Lib.run_append_grow_zeros (P:=P) w t tn ty e ji zv .i64 .i64 hu hun hinfo hz (some ⟨g,0,none⟩) k cap (rows.take k).flatten hold q hq (by rw [hs];exact Nat.pos_of_ne_zero hs0) hc (by omega) (by rw [hby];exact hqe) (by rw [hby];exact growslice_fits (by omega) (by omega))
 have hex:(execOp a.eval ⟨dst,.call { callee:=.builtin .append,args:=#[x,y],argTypes:=#[t,tn] },ty,pos,after,none⟩).run P w=.ok (.value (.slice (some ⟨w.heap.size,0,none⟩) (k + q) (grownCap w (k + q) cap e))) (w.drew.alloc (.cells ((rows.take k).flatten.toArray++Builtin.zeroCells zv.cells q++Builtin.zeroCells zv.cells (grownCap w (k + q) cap e - (k + q))) e)):=by
  simp [execOp,resolve,invoke,builtin,ha.ev hx,ha.ev hy,hrun,Result.andThen]
 unfold Oper.wp
 rw [hex]
 have hzc:∀ dl,(Builtin.zeroCells zv.cells dl).toList=(List.replicate dl ez).flatten:=fun dl=>by
  have hfl:(List.replicate dl ez).flatten.length=dl * sz:=by rw [s8 (size:=sz) (fun r hr=>by rw [List.eq_of_mem_replicate hr,hsz]),List.length_replicate]
  refine List.ext_getElem? fun j=>?_
  unfold Builtin.zeroCells
  rw [hzs]
  by_cases hj:j < dl * sz
  ·have hdiv:j / sz < (List.replicate dl ez).length:=by rw [List.length_replicate];exact Nat.div_lt_of_lt_mul (by rw [Nat.mul_comm];exact hj)
   have hmod:=Nat.mod_lt j (Nat.pos_of_ne_zero hs0)
   have h3:=a3x (rows:=List.replicate dl ez) (size:=sz) (fun r hr=>by rw [List.eq_of_mem_replicate hr,hsz]) (i:=j / sz) (j:=j % sz) (List.getElem?_eq_getElem hdiv) hmod
   rw [show j / sz * sz + j % sz=j from by rw [Nat.mul_comm];exact Nat.div_add_mod j sz] at h3
   rw [h3,List.getElem_replicate]
   have hml:j % sz < zv.cells.size:=by rw [hzs];exact hmod
   simp [hj,hml,← hzl]
  ·rw [List.getElem?_eq_none (by simp;omega),List.getElem?_eq_none (by rw [hfl];omega)]
 have hge:=grownCap_ge w (k + q) cap e
 have hcm:=grownCap_le_maxLen w (k + q) cap e (by unfold maxLen;omega)
 refine kk _ _ ⟨w.heap.size,_,rfl,hge,hS.new ⟨rfl,rfl,rfl,by simp,fun k hk _=>heap_alloc_old w.drew _ hk⟩ ?_ (by simp [Asr.fp,Value.ownBlock])⟩
 have hrl:∀ r ∈ rows.take k++List.replicate q ez,r.length=sz:=fun r hr=>by
  rcases List.mem_append.1 hr with hr|hr
  ·exact hlen r (List.mem_of_mem_take hr)
  ·rw [List.eq_of_mem_replicate hr,hsz]
 have hll:(rows.take k++List.replicate q ez).length=k + q:=by rw [List.length_append,List.length_take,List.length_replicate];omega
 have hfl:(rows.take k++List.replicate q ez).flatten.length=(k + q) * sz:=by rw [s8 hrl,hll]
 refine ⟨⟨s8 hrl,.inr ⟨w.heap.size,_,_,by rw [hll],Nat.zero_le _,heap_alloc_new w.drew _,by rw [hll];exact hge,hcm,?_,?_⟩⟩,hrl,fun r hr=>?_⟩
 ·have e1:((rows.take k).flatten.toArray++Builtin.zeroCells zv.cells q++Builtin.zeroCells zv.cells (grownCap w (k + q) cap e - (k + q))).toList.length=grownCap w (k + q) cap e * sz:=by
   rw [Array.toList_append,Array.toList_append,hzc,hzc,List.toList_toArray,← List.flatten_append,List.length_append,hfl]
   rw [s8 (size:=sz) (fun r hr=>by rw [List.eq_of_mem_replicate hr,hsz]),List.length_replicate,← Nat.add_mul]
   congr 1
   omega
  simpa using e1
 ·rw [Array.toList_append,Array.toList_append,hzc,hzc,List.toList_toArray,← List.flatten_append,hll,← hfl,List.take_left']
  rfl
 ·rcases List.mem_append.1 hr with hr|hr
  ·exact hone r (List.mem_of_mem_take hr)
  ·rw [List.eq_of_mem_replicate hr];exact h1
end
end Go.Proofs.Ytejnpppejalhfac
/- THE STEP CALCULUS, part 26: functions of the model's own (extern); slices.overlaps; any slice expression's value. -/
namespace Go.Proofs.Ytejnpppejalhfac
open Go.RowKit Go.Sort
section
variable {P:Program} {n:Nat} {ds:List Deferred} {E:Fr} {w w':World} {Q:Exit→Act→World→Prop} {ops:Array Oper} {rest:List Oper} {d:Nat} {dst:Option Nat} {ty:TypeId} {pos:String} {after:Array Edge} {F:Nat→Prop} {w0:World} {Γ:List Asr} {T:Tab}
theorem b1Y {f : FuncId} {fn : Func} {e : Array Value → Sem Value} {x : Operand} {args : Array Operand} {ats : Array TypeId} {vs : List Value} {v : Value} (hf : P.funcs[f]? = some fn) (hname : (fn.name == "runtime.NumGoroutine") = false) (hb : fn.body.isNone = true) (hn : Extern.findNext fn = none) (he : Extern.find fn = some e) (hx : E.ev x = some (.func (.func f) #[] #[])) (hv : E.evs args.toList = some vs) (h : (e vs.toArray).run P w = .ok v w) :
  Gets P ⟨dst,.call { callee:=.value x,args:=args,argTypes:=ats },ty,pos,after,none⟩ n ds E w (fun v' w'=>v'=v∧w'=w):=Gets.of_at fun a ha=>by
 have e1:args.map a.eval=vs.toArray:=by rw [← ha.evs hv,← Array.toList_map,Array.toArray_toList]
 have hr:=run_callFunc_extern (P:=P) hf hname hb hn he vs.toArray w
 rw [h] at hr
 simp only [execOp,resolve,ha.ev hx,Deferred.ofValue,Sem.run_bind,Sem.run_pure,Result.andThen_ok,invoke,e1]
 simpa using hr
theorem b1L {f : FuncId} {fn : Func} {e : Array Value → Sem Value} {x : Operand} {args : Array Operand} {ats : Array TypeId} {vs : List Value} {v : Value} (hf : P.funcs[f]? = some fn) (hname : (fn.name == "runtime.NumGoroutine") = false) (hb : fn.body.isNone = true) (hn : Extern.findNext fn = none) (he : Extern.find fn = some e) (hx : E.ev x = some (.func (.func f) #[] #[])) (hv : E.evs args.toList = some vs) (h : (e vs.toArray).run P w = .ok v w) (hd : Nat.blt d n = true) (k : WL P ops Q rest n ds ((d, v) :: E) w) :
  WL P ops Q (⟨some d,.call { callee:=.value x,args:=args,argTypes:=ats },ty,pos,after,none⟩::rest) n ds E w:=y7 hd (b1Y hf hname hb hn he hx hv h) (by rintro _ _ ⟨rfl,rfl⟩;exact k)
theorem b0D (hS:St F w0 w Γ) (hT:TabOk P T) {t tR e sz eb i j b o lb cb m cap n' cap' g:Nat} {ag:Bool} {ez:List Value} {rows rows':List (List Value)} (ht:T.get t=some (.sl e sz eb ag ez)) (hi:Γ[i]?=some (.row e sz (.slice (some ⟨g,0,none⟩) m cap) rows)) (hj:Γ[j]?=some (.row e sz (.slice (some ⟨b,0,none⟩) n' cap') rows')) (hne:i≠j) (hcap:0 < cap') :
  (Extern.SlicesOverlaps.overlaps #[t,t] #[tR] #[.slice (some ⟨g,0,none⟩) m cap,.slice (some ⟨b,o,none⟩) lb cb]).run P w=.ok (.bool false) w:=by
 obtain ⟨ji,zv,hu,hinfo,_,hs,_,_,_,_,hsz,hs0⟩:=hT.sl ht
 obtain ⟨ho,_⟩:=hS.at_ hi
 obtain ⟨ho',_⟩:=hS.at_ hj
 have hap:=a3f hS.apart hi hj hne
 have hgb:g≠b:=by
  rcases hap with h|h
  ·cases h
  ·intro e0;exact h (by rw [e0];rfl)
 rcases ho.2 with ⟨he,_⟩|⟨g1,cap1,cur1,hv1,_,hg1,_,_,hcs1,_⟩
 ·cases he
 cases hv1
 rcases ho'.2 with ⟨he,_⟩|⟨g2,cap2,cur2,hv2,_,hg2,_,_,hcs2,_⟩
 ·cases he
 cases hv2
 exact Go.Lib.run_overlaps_apart w t tR e hu sz (fun w=>by simp [sizeOf,typeInfo,hinfo,hs]) ⟨g,0,none⟩ ⟨b,o,none⟩ _ _ _ _ hgb e e cur1.size cur2.size (by simp [World.shape?,hg1]) (by simp [World.shape?,hg2]) (by rw [hcs2];exact Nat.ne_of_gt (Nat.mul_pos hcap (Nat.pos_of_ne_zero hs0))) (by simp [World.frozen?,hg1]) (by simp [World.frozen?,hg1])
def a9F (p:Option Addr) (m c j sz:Nat):Value:=.slice (if c=j then p else p.map fun q=>q.add (j * sz)) (m - j) (c - j)
theorem a9o (hT:TabOk P T) {t el sz eb m c j:Nat} {p:Option Addr} {ag:Bool} {z:List Value} {x y:Operand} {i:Int} (ht:T.get t=some (.sl el sz eb ag z)) (hx:E.ev x=some (.slice p m c)) (hy:E.ev y=some (.int .i64 i)) (hj:(j:Int)=i) (hm:j≤m):∀ a,Has n ds a E→∀ dst,a0I P ⟨dst,.slice t x (some y) none none,ty,pos,after,none⟩ a (a9F p m c j sz):=fun a ha _ w=>by
 obtain ⟨ji,zv,hu,hinfo,_,hs,_⟩:=hT.sl ht
 subst hj
 have hb:(Instr.sliceBounds true m c (some (.int .i64 (j:Int))) none none).run P w=.ok (j,m,c) w:=by
  simp [Instr.sliceBounds,run_sliceBound,hm]
 simp only [execOp,ha.ev hx,ha.ev hy,Option.map_some,Option.map_none]
 simp [Instr.sliceAt,Instr.slice,run_underlying hu,hb,sizeOf,typeInfo,hinfo,hs,a9F]
theorem a3L (hT:TabOk P T) {t el sz eb m c j:Nat} {p:Option Addr} {ag:Bool} {z:List Value} {x y:Operand} {i:Int} (ht:T.get t=some (.sl el sz eb ag z)) (hx:E.ev x=some (.slice p m c)) (hy:E.ev y=some (.int .i64 i)) (hj:(j:Int)=i) (hm:j≤m) (hd:Nat.blt d n=true) (k':WL P ops Q rest n ds ((d,a9F p m c j sz)::E) w):WL P ops Q (⟨some d,.slice t x (some y) none none,ty,pos,after,none⟩::rest) n ds E w:=z8 (fun a ha=>a9o hT ht hx hy hj hm a ha _) hd k'
end
end Go.Proofs.Ytejnpppejalhfac
/- A space's pages, page by page. -/
namespace Go.Proofs.Ytejnpppejalhfac
open Go.RowKit Go.Sort
theorem b0H {A:List Ar}:∀ {e:Int},a14 e A→∀ a ∈ A,e≤a.pg∧a.ok:=by
 induction A with
 |nil=>intro e _ a h;cases h
 |cons b A ih=>
  intro e h a ha
  obtain ⟨h1,h2,h3⟩:=h
  rcases List.mem_cons.1 ha with rfl|ha
  ·exact ⟨h2,h1⟩
  ·have:=ih h3 a ha
   unfold Ar.ok at h1
   unfold Ar.fin at this
   exact ⟨by omega,this.2⟩
theorem a8Z {A:List Ar} (hc:q7 A=0) {e:En} (h:(v7 A e.page).isSome=true):0 < e.page:=by
 obtain ⟨a,ha⟩:=Option.isSome_iff_exists.1 h
 have:=(a0F hc ha).2
 omega
end Go.Proofs.Ytejnpppejalhfac
/- A kernel at work, in plain Lean: frames got, pages put aside and brought, entries let go. -/
namespace Go.Proofs.Ytejnpppejalhfac
open Go.RowKit Go.Sort
def o0 (l:List En) (p:Int):Option En:=l.find? fun e=>decide (e.page=p)
def n9 (l:List En):List Int:=l.map fun e=>e.page
def a9t (l:List En) (e:En):List En:=l.take (lbd (n9 l) e.page)++e::l.drop (lbd (n9 l) e.page)
def a1Z (l:List En) (e:En):List En:=if e.page ∈ n9 l then l.set (lbd (n9 l) e.page) e else a9t l e
/-! put aside -/
def x9 (f:Int) (t:Option Int) (e:En):Option En:=if e.kind=1∧e.at_=f then t.map (fun s=>⟨e.page,2,s⟩) else some e
def a0m (f:Int) (t:Option Int) (s:Sc):Sc:=⟨s.live,s.areas,s.entries.filterMap (x9 f t)⟩
def a19 (l:List Sw):Option Nat:=l.findIdx? fun s=>decide (s.refs=0)
def a32 (l:List Fm):Option Nat:=l.findIdx? fun f=>decide (f.refs=0)
def l7 (l:List Fm) (i:Nat):Fm:=(l[i]?).getD fm0
def a0g (l:List Sw) (i:Nat):Sw:=(l[i]?).getD sw0
def a0C (K:Ker) (f:Nat):Option Nat:=if (l7 K.frames f).dirty then some ((a19 K.slots).getD 0) else none
def v5 (K:Ker) (f:Nat):Ker :=
 ⟨K.sheets,K.frames.set f fm0,(match a0C K f with
  |some t=>K.slots.set t ⟨(l7 K.frames f).data,(l7 K.frames f).refs⟩
  |none=>K.slots),K.spaces.map (a0m (f:Nat) ((a0C K f).map fun (t:Nat)=>(t:Int))),K.hand⟩
/-! a frame that is got -/
def a0d (n h:Nat):Nat:=if h + 1=n then 0 else h + 1
def a0E:Nat→List Fm→Nat→List Nat→List Fm×Nat×Nat
 |0,fr,h,_=>(fr,h,0)
 |k + 1,fr,h,held=>if h ∈ held then a0E k fr (a0d fr.length h) held else if (l7 fr h).seen then a0E k (fr.set h ⟨(l7 fr h).data,(l7 fr h).refs,(l7 fr h).dirty,false⟩) (a0d fr.length h) held else (fr,a0d fr.length h,h)
def a0j (K:Ker) (held:List Nat):List Fm×Nat×Nat:=a0E 5000 K.frames K.hand.toNat held
def a0D (K:Ker) (held:List Nat):Ker×Nat:=match a32 K.frames with
 |some i=>(K,i)
 |none=>(v5 ⟨K.sheets,(a0j K held).1,K.slots,K.spaces,((a0j K held).2.1:Nat)⟩ (a0j K held).2.2,(a0j K held).2.2)
/-! entries let go, and put -/
def a2o (f:Fm):Fm:=if f.refs - 1=0 then fm0 else ⟨f.data,f.refs - 1,f.dirty,f.seen⟩
def a2p (s:Sw):Sw:=if s.refs - 1=0 then sw0 else ⟨s.data,s.refs - 1⟩
def a0c (K:Ker) (e:En):Ker:=if e.kind=1 then ⟨K.sheets,K.frames.set e.at_.toNat (a2o (l7 K.frames e.at_.toNat)),K.slots,K.spaces,K.hand⟩ else ⟨K.sheets,K.frames,K.slots.set e.at_.toNat (a2p (a0g K.slots e.at_.toNat)),K.spaces,K.hand⟩
def sc0:Sc:=⟨false,[],[]⟩
def u7 (K:Ker) (sp:Nat):Sc:=(K.spaces[sp]?).getD sc0
def l5 (K:Ker) (sp:Nat):List En:=(u7 K sp).entries
def l9 (K:Ker) (sp:Nat):List Ar:=(u7 K sp).areas
def a69 (K:Ker) (sp:Nat) (s:Sc):Ker:=⟨K.sheets,K.frames,K.slots,K.spaces.set sp s,K.hand⟩
def a7x (K:Ker) (sp:Nat) (l:List En):Ker:=a69 K sp ⟨(u7 K sp).live,(u7 K sp).areas,l⟩
def z7 (K:Ker) (f:Nat) (x:Fm):Ker:=⟨K.sheets,K.frames.set f x,K.slots,K.spaces,K.hand⟩
def a1n (K:Ker):Option En→Ker
 |some e=>a0c K e
 |none=>K
def inK (K:Ker) (sp:Nat) (page:Int) (f:Nat) (data:List UInt8) (dirty:Bool):Ker :=
 a7x (a1n (z7 K f ⟨data,1,dirty,false⟩) (o0 (l5 K sp) page)) sp (a1Z (l5 K sp) ⟨page,1,(f:Nat)⟩)
/-! a page that is brought -/
def zAt (K:Ker) (sp:Nat) (page:Int):Bool:=((v7 (l9 K sp) page).getD a52).z
def a0Q (K:Ker) (sp:Nat) (page:Int):List UInt8:=(a09 K.sheets (zAt K sp page) page).getD []
def a2M (K:Ker) (sp:Nat) (page:Int) (held:List Nat):Ker×Nat:=match o0 (l5 K sp) page with
 |none=>(inK (a0D K held).1 sp page (a0D K held).2 (a0Q K sp page) false,(a0D K held).2)
 |some e=>if e.kind=2 then (inK (a0D K held).1 sp page (a0D K held).2 (a0g K.slots e.at_.toNat).data true,(a0D K held).2) else (K,e.at_.toNat)
def a5F (K:Ker) (sp:Nat) (page:Int) (write:Bool) (held:List Nat) (f:Nat):Ker×Nat :=
 if write=true∧1 < (l7 K.frames f).refs then (inK (a0D K (held++[f])).1 sp page (a0D K (held++[f])).2 (l7 K.frames f).data true,(a0D K (held++[f])).2) else (K,f)
def a1H (K:Ker) (f:Nat) (write:Bool):Ker:=z7 K f ⟨(l7 K.frames f).data,(l7 K.frames f).refs,(l7 K.frames f).dirty||write,true⟩
def a1s (K:Ker) (sp:Nat) (page:Int) (write:Bool) (held:List Nat):Ker×Nat:=a5F (a2M K sp page held).1 sp page write held (a2M K sp page held).2
def a0O (K:Ker) (sp:Nat) (page:Int) (write:Bool) (held:List Nat):Ker×Nat:=(a1H (a1s K sp page write held).1 (a1s K sp page write held).2 write,(a1s K sp page write held).2)
def a1i (K:Ker) (sp:Nat) (addr size:Int) (write:Bool):Ker:=if (addr + size - 1) / 16=addr / 16 then (a0O K sp (addr / 16) write []).1 else (a0O (a0O K sp (addr / 16) write []).1 sp ((addr + size - 1) / 16) write [(a0O K sp (addr / 16) write []).2]).1
/-! what a page holds -/
def v8 (K:Ker) (e:En):List UInt8:=if e.kind=1 then (l7 K.frames e.at_.toNat).data else (a0g K.slots e.at_.toNat).data
def t7 (K:Ker) (sp:Nat) (page:Int):List UInt8:=match o0 (l5 K sp) page with
 |some e=>v8 K e
 |none=>a0Q K sp page
/-! right kernels -/
structure FmOk (sh:List Sh) (f:Fm) (N:List Nm):Prop where
 refs:f.refs=(N.length:Int)
 nil:N=[]→f=fm0
 len:N≠[]→f.data.length=16
 same:∀ n ∈ N,∀ m ∈ N,m.1.page=n.1.page∧m.2.z=n.2.z
 data:∀ n ∈ N,f.dirty=true∨some f.data=a09 sh n.2.z n.1.page
structure SwOk (s:Sw) (N:List Nm):Prop where
 refs:s.refs=(N.length:Int)
 nil:N=[]→s=sw0
 len:N≠[]→s.data.length=16
 same:∀ n ∈ N,∀ m ∈ N,m.1.page=n.1.page∧m.2.z=n.2.z
theorem a51 {N:List Nm}:a2k N=true ↔ ∀ n ∈ N,∀ m ∈ N,m.1.page=n.1.page∧m.2.z=n.2.z:=by
 cases N with
 |nil=>simp [a2k]
 |cons a r=>
  unfold a2k
  rw [List.all_eq_true]
  constructor
  ·intro h
   have h':∀ m ∈ a::r,m.1.page=a.1.page∧m.2.z=a.2.z:=fun m hm=>by
    rcases List.mem_cons.1 hm with rfl|hm
    ·exact ⟨rfl,rfl⟩
    ·exact of_decide_eq_true (h m hm)
   exact fun n hn m hm=>⟨(h' m hm).1.trans (h' n hn).1.symm,(h' m hm).2.trans (h' n hn).2.symm⟩
  ·exact fun h m hm=>decide_eq_true (h a List.mem_cons_self m (List.mem_cons_of_mem _ hm))
theorem a6g {sh:List Sh} {f:Fm} {N:List Nm}:a1Y sh f N=true ↔ FmOk sh f N:=by
 cases N with
 |nil=>
  unfold a1Y
  rw [decide_eq_true_eq]
  constructor
  ·rintro rfl;exact ⟨rfl,fun _=>rfl,fun h=>absurd rfl h,(fun _ h=>by cases h),(fun _ h=>by cases h)⟩
  ·exact fun h=>h.nil rfl
 |cons n r=>
  unfold a1Y
  rw [Bool.and_eq_true,Bool.and_eq_true,a51,decide_eq_true_eq,Bool.or_eq_true,decide_eq_true_eq]
  constructor
  ·rintro ⟨⟨h1,h2⟩,h3,h4⟩
   refine ⟨h1,(fun h=>by cases h),fun _=>h2,h3,fun m hm=>?_⟩
   have:=h3 n List.mem_cons_self m hm
   rw [this.1,this.2]
   exact h4
  ·intro h
   exact ⟨⟨h.refs,h.len (by simp)⟩,h.same,h.data n List.mem_cons_self⟩
theorem a6K {s:Sw} {N:List Nm}:a2A s N=true ↔ SwOk s N:=by
 cases N with
 |nil=>
  unfold a2A
  rw [decide_eq_true_eq]
  constructor
  ·rintro rfl;exact ⟨rfl,fun _=>rfl,fun h=>absurd rfl h,(fun _ h=>by cases h)⟩
  ·exact fun h=>h.nil rfl
 |cons n r=>
  unfold a2A
  rw [Bool.and_eq_true,a51,decide_eq_true_eq]
  constructor
  ·rintro ⟨⟨h1,h2⟩,h3⟩
   exact ⟨h1,(fun h=>by cases h),fun _=>h2,h3⟩
  ·intro h
   exact ⟨⟨h.refs,h.len (by simp)⟩,h.same⟩
theorem FmOk.perm {sh:List Sh} {f:Fm} {N M:List Nm} (h:FmOk sh f N) (p:N.Perm M):FmOk sh f M :=
 ⟨by rw [← p.length_eq];exact h.refs,fun e=>h.nil (by subst e;exact p.eq_nil),fun e=>h.len (fun e2=>e (by subst e2;exact p.symm.eq_nil)),fun n hn m hm=>h.same n (p.mem_iff.2 hn) m (p.mem_iff.2 hm),fun n hn=>h.data n (p.mem_iff.2 hn)⟩
theorem SwOk.perm {f:Sw} {N M:List Nm} (h:SwOk f N) (p:N.Perm M):SwOk f M :=
 ⟨by rw [← p.length_eq];exact h.refs,fun e=>h.nil (by subst e;exact p.eq_nil),fun e=>h.len (fun e2=>e (by subst e2;exact p.symm.eq_nil)),fun n hn m hm=>h.same n (p.mem_iff.2 hn) m (p.mem_iff.2 hm)⟩
structure Right (K:Ker):Prop where
 cnt:3≤K.frames.length∧K.frames.length≤64∧K.slots.length≤512∧1≤K.spaces.length∧K.spaces.length≤4∧K.sheets.length≤255
 rise:a0W 0 K.sheets=true
 hand:0≤K.hand∧K.hand < K.frames.length
 spaces:∀ s ∈ K.spaces,z6 K.sheets K.frames.length K.slots.length s=true
 room:r9 K.spaces≤K.slots.length
 fr:∀ (i:Nat) f,K.frames[i]?=some f→FmOk K.sheets f (m8 K.spaces 1 (i:Nat))
 sl:∀ (i:Nat) s,K.slots[i]?=some s→SwOk s (m8 K.spaces 2 (i:Nat))
theorem a4U {K:Ker}:a2g K=true ↔ ∀ (i:Nat) f,K.frames[i]?=some f→FmOk K.sheets f (m8 K.spaces 1 (i:Nat)):=by
 unfold a2g
 rw [List.all_eq_true]
 constructor
 ·intro h i f hf
  have:=h i (List.mem_range.2 (j3 hf))
  rw [hf] at this
  exact a6g.1 this
 ·intro h i hi
  rw [List.mem_range] at hi
  rw [List.getElem?_eq_getElem hi]
  exact a6g.2 (h i _ (List.getElem?_eq_getElem hi))
theorem a5p {K:Ker}:a3m K=true ↔ ∀ (i:Nat) s,K.slots[i]?=some s→SwOk s (m8 K.spaces 2 (i:Nat)):=by
 unfold a3m
 rw [List.all_eq_true]
 constructor
 ·intro h i f hf
  have:=h i (List.mem_range.2 (j3 hf))
  rw [hf] at this
  exact a6K.1 this
 ·intro h i hi
  rw [List.mem_range] at hi
  rw [List.getElem?_eq_getElem hi]
  exact a6K.2 (h i _ (List.getElem?_eq_getElem hi))
theorem a1m {K:Ker}:a0Y K=0 ↔ Right K:=by
 unfold a0Y
 by_cases h1:a2F K=true
 rotate_left
 ·rw [if_neg h1]
  refine ⟨(fun h=>by cases h),fun h=>?_⟩
  exact absurd (by unfold a2F;rw [decide_eq_true_eq];exact h.cnt) h1
 rw [if_pos h1]
 unfold a2F at h1
 rw [decide_eq_true_eq] at h1
 by_cases h2:a5Q K=true
 ·rw [if_pos h2]
  refine ⟨fun _=>?_,fun _=>rfl⟩
  unfold a5Q at h2
  simp only [Bool.and_eq_true,decide_eq_true_eq] at h2
  obtain ⟨⟨a1,a2⟩,a3,a4,a5,a6⟩:=h2
  exact ⟨h1,a1,a2,fun s hs=>List.all_eq_true.1 a3 s hs,a4,a4U.1 a5,a5p.1 a6⟩
 ·rw [if_neg h2]
  refine ⟨(fun h=>by cases h),fun h=>?_⟩
  refine absurd ?_ h2
  unfold a5Q
  simp only [Bool.and_eq_true,decide_eq_true_eq]
  exact ⟨⟨h.rise,h.hand⟩,List.all_eq_true.2 h.spaces,h.room,a4U.2 h.fr,a5p.2 h.sl⟩
end Go.Proofs.Ytejnpppejalhfac
/- slices.DeleteFunc, Insert and Clone of entries. -/
namespace Go.Proofs.Ytejnpppejalhfac
open Go.RowKit Go.Sort
def enA (v:Value) (l:List En):Asr:=.row 55 3 v (l.map enC)
theorem a7n (a y:En):t8 (enC a) 0 (enC y)=enC y:=a3h (enC a) (enC y) rfl
theorem a7b {α:Type} {p:α→Bool} {l:List α} {j:Nat} {x:α} (h:l[j]?=some x):(l.take (j + 1)).filter p=(l.take j).filter p++(if p x then [x] else []):=by
 rw [a0S h,List.filter_append]
 cases hp:p x with
 |true=>rw [List.filter_cons_of_pos hp,if_pos rfl,List.filter_nil]
 |false=>rw [List.filter_cons_of_neg (by simp [hp]),if_neg (by simp),List.filter_nil]
theorem b0L {α:Type} {p:α→Bool} {l:List α}:(a2h p l=-1∧l.any p=false)∨∃ i x,a2h p l=((i:Nat):Int)∧l[i]?=some x∧p x=true∧(l.take i).filter (fun y=>!p y)=l.take i:=by
 unfold a2h
 cases h:l.findIdx? p with
 |none=>
  left
  rw [List.findIdx?_eq_none_iff] at h
  refine ⟨rfl,?_⟩
  rw [List.any_eq_false]
  intro x hx
  rw [h x hx]
  simp
 |some i=>
  right
  rw [List.findIdx?_eq_some_iff_getElem] at h
  obtain ⟨h1,h2,h3⟩:=h
  refine ⟨i,l[i],rfl,List.getElem?_eq_getElem h1,h2,List.filter_eq_self.2 fun y hy=>?_⟩
  obtain ⟨j,hj⟩:=List.mem_iff_getElem?.1 hy
  rw [List.getElem?_take] at hj
  split at hj
  ·rename_i hji
   obtain ⟨hjl,rfl⟩:=List.getElem?_eq_some_iff.1 hj
   have:=h3 j hji
   simpa using this
  ·cases hj
theorem a46 {α:Type} {p:α→Bool} {l:List α} (h:l.any p=false):l.filter (fun y=>!p y)=l:=List.filter_eq_self.2 fun y hy=>by
 rw [List.any_eq_false] at h
 have:=h y hy
 simpa using this
set_option maxRecDepth 100000 in
set_option maxHeartbeats 8000000 in
theorem a72 {F:Nat→Prop} {w0 w:World} {Γ:List Asr} {v:Value} {l:List En} {p:En→Bool} {k:FuncId} {caps:List Value} (hS0:St F w0 w (enA v l::Γ)) (hf:∀ x ∈ l,∀ w' Γ',St (fps [enA v l]) w w' Γ'→Fn Try.prog k ([.agg (enC x).toArray]++caps) w' (RBf (.bool (p x)) w')) :
  Fn Try.prog 53 [v,.func (.func k) #[] caps.toArray] w (fun v' w'=>∃ q c,v'=.slice q (l.filter fun y=>!p y).length c∧St (fps [enA v l]) w w' [enA v' (l.filter fun y=>!p y)]):=by
 have hS:=St.startM (Δ:=[enA v l]) hS0
 have bnd:=(hS.rowSl 0 rfl).bound
 obtain ⟨pp,c,hpp⟩:=hS.rowSlice 0 rfl
 rw [List.length_map] at hpp
 have hidx:=fun w1 Γ1 (h:St (fps [enA v l]) w w1 Γ1) (h0:Sl nF w1 3 v (l.map enC))=>b3o (p:=p) (k:=k) (caps:=caps) h0 (fun x hx w' h2=>by
  obtain ⟨Γ2,h2⟩:=h2
  exact hf x hx w' _ (h.trans h2))
 generalize fps [enA v l]=G at hS hf hidx ⊢
 subst hpp
 refine j0 (fn:=Try.f53) ⟨Try.func53,by kernel_rfl,by kernel_rfl⟩ (by exact rfl) Try.ntmps53 (by exact rfl) ?_
 unfold enA at hS ⊢
 rcases b0L (p:=p) (l:=l) with ⟨hi,hany⟩|⟨i,x,hi,hx,hpx,hpre⟩
 ·rw [hi] at hidx
  rw [a46 hany]
  repeat' (first|(((with_reducible apply d6 c8);exact rfl;exact rfl))|(first|(with_reducible first|apply d8|apply c9|apply d7|apply d5|apply j5|apply e6))|(((with_reducible apply k9);exact rfl;(exact rfl)))|((with_reducible apply e8);exact rfl;exact rfl;exact hidx _ _ hS (hS.rowSl 0 rfl);exact rfl;rintro _ w' ⟨rfl,hS'⟩;replace hS:=hS.transA hS';simp only [k7] at hS;clear hS'))
  (apply j6);(repeat (first|exact ResL.nil|(apply ResL.tmp;exact rfl)))
  exact ⟨_,_,rfl,hS⟩
 rw [hi] at hidx
 have hil:=j3 hx
 obtain ⟨g,rfl⟩:=hS.rowSome 0 rfl (by omega)
 have hcc:l.length≤c:=by
  rcases hS.rowForm 0 rfl with ⟨h1,-⟩|⟨g',c',h1,h2,-⟩
  ·cases h1
  ·injection h1 with _ _ h3;subst h3;rw [List.length_map] at h2;exact h2
 repeat' (first|(first|((with_reducible apply m0);exact rfl;exact rfl;omega;omega;exact rfl)|((with_reducible apply d6 c8);exact rfl;exact rfl))|(first|(with_reducible first|apply d8|apply c9|apply d7|apply d5|apply g8|apply e7))|(((with_reducible apply l6);exact rfl;(exact rfl)))|((with_reducible apply e8);exact rfl;exact rfl;exact hidx _ _ hS (hS.rowSl 0 rfl);exact rfl;rintro _ w' ⟨rfl,hS'⟩;replace hS:=hS.transA hS';simp only [k7] at hS;clear hS'))
 have hst0:(l.take (i + 1)).filter (fun y=>!p y)=l.take i:=by
  rw [a7b hx,hpre,hpx]
  simp
 refine o6 (X:=Nat×Nat×List En) (fun x=>[(5,.int .i64 (x.1:Nat)),(6,.int .i64 (x.2.1:Nat))]) [0,1] rfl (fun x=>[.row 55 3 (.slice (some ⟨g,0,none⟩) l.length c) (x.2.2.map enC)]) (fun x=>x.1 < x.2.1∧x.2.1≤l.length∧x.2.2.length=l.length∧x.2.2.take x.1=(l.take x.2.1).filter (fun y=>!p y)∧x.2.2.drop x.2.1=l.drop x.2.1) (fun x=>l.length - x.2.1) (i,i + 1,l) (by repeat (first|exact Fr.sub_nil _|(apply Fr.sub_cons;exact rfl))) ⟨Nat.lt_succ_self i,hil,rfl,hst0.symm,rfl⟩ hS ?_
 clear hS hidx hst0 hi hx hpx hpre hil
 rintro ⟨i,j,L⟩ w1 ⟨hij,hjl,hL,htk,hdr⟩ hS
 dsimp only [List.cons_append,List.nil_append] at hij hjl hL htk hdr hS ⊢
 by_cases hlt:j < l.length
 ·obtain ⟨y,hy⟩:=l8 (l:=l) (i:=j) (by omega)
  have hyL:L[j]?=some y:=by
   have h1:(L.drop j)[0]?=(l.drop j)[0]?:=by rw [hdr]
   rw [List.getElem?_drop,List.getElem?_drop] at h1
   rw [Nat.add_zero] at h1
   rw [h1,hy]
  have hrow:=j9 (f:=enC) hyL
  have hcall:=fun w' Γ' h=>hf y (List.mem_of_getElem? hy) w' Γ' h
  have hstep:=a7b (p:=fun y=>!p y) hy
  cases hpy:p y with
  |true=>
   rw [hpy] at hcall hstep
   unfold enC at hcall
   unfold enC at hrow
   repeat' (first|(first|((with_reducible apply m0);exact rfl;exact rfl;omega;omega;exact rfl)|((with_reducible apply d6 c8);exact rfl;exact rfl)|((with_reducible apply d9);exact rfl;(((with_reducible apply Loads.st c8);exact rfl;(first|exact hS.blkR 0 rfl|exact hS.rowR 0 rfl (by assumption));exact rfl));exact rfl)|((with_reducible apply p8 c8);(iterate 3 exact rfl);((exact rfl));((omega));exact rfl)|((with_reducible apply j7 hS c8);(iterate 3 exact rfl);intro g w' hS';clear hS;have hS:=hS';clear hS')|(((with_reducible apply i7 hS c8 (i:=0));(iterate 8 exact rfl);((exact (rfl:_=[_,_,_])));intro w' hS';simp only [List.set] at hS';clear hS;have hS:=hS';clear hS')))|(first|(with_reducible first|apply d8|apply c9|apply d7|apply d5|apply g8|apply e7|apply k8))|(first|((with_reducible apply l6);exact rfl;(exact rfl))|((with_reducible apply k6);exact rfl;all_goals (intro hb hp;try (exfalso;omega))))|((with_reducible apply e8);exact rfl;exact rfl;exact hcall _ _ hS;exact rfl;rintro _ w' ⟨rfl,hS'⟩;replace hS:=hS.transA hS';simp only [k7] at hS;clear hS'))
   refine m6 (i,j + 1,L) (by repeat (first|exact Fr.sub_nil _|(apply Fr.sub_cons;exact rfl))) ⟨by show i < j + 1;omega,by show j + 1≤l.length;omega,hL,?_,?_⟩ hS.drop (by show l.length - (j + 1) < l.length - j;omega)
   ·show L.take i=_
    rw [hstep,htk]
    simp
   ·show L.drop (j + 1)=l.drop (j + 1)
    rw [← List.drop_drop,← List.drop_drop,hdr]
  |false=>
   rw [hpy] at hcall hstep
   unfold enC at hcall
   have hrow2:(L.map enC)[i]?=some (enC ((L[i]?).getD y)):=by
    obtain ⟨z,hz⟩:=l8 (l:=L) (i:=i) (by omega)
    rw [hz]
    exact j9 (f:=enC) hz
   unfold enC at hrow
   repeat' (first|(first|((with_reducible apply m0);exact rfl;exact rfl;omega;omega;exact rfl)|((with_reducible apply d6 c8);exact rfl;exact rfl)|((with_reducible apply d9);exact rfl;(((with_reducible apply Loads.st c8);exact rfl;(first|exact hS.blkR 0 rfl|exact hS.rowR 0 rfl (by assumption));exact rfl));exact rfl)|((with_reducible apply p8 c8);(iterate 3 exact rfl);((exact rfl));((omega));exact rfl)|((with_reducible apply j7 hS c8);(iterate 3 exact rfl);intro g w' hS';clear hS;have hS:=hS';clear hS')|(((with_reducible apply i7 hS c8 (i:=0));(iterate 8 exact rfl);((exact (rfl:_=[_,_,_])));intro w' hS';simp only [List.set] at hS';clear hS;have hS:=hS';clear hS')))|(first|(with_reducible first|apply d8|apply c9|apply d7|apply d5|apply g8|apply e7|apply k8))|(first|((with_reducible apply k9);exact rfl;(exact rfl))|((with_reducible apply k6);exact rfl;all_goals (intro hb hp;try (exfalso;omega))))|((with_reducible apply e8);exact rfl;exact rfl;exact hcall _ _ hS;exact rfl;rintro _ w' ⟨rfl,hS'⟩;replace hS:=hS.transA hS';simp only [k7] at hS;clear hS')|((with_reducible apply a0p hS c8 (i:=1));(iterate 4 exact rfl);assumption;(iterate 5 exact rfl);intro w' hS';simp only [List.set] at hS';clear hS;have hS:=hS';clear hS'))
   have hrw:(L.map enC).set i (t8 (enC ((L[i]?).getD y)) 0 [.int .i64 y.page,.int .i64 y.kind,.int .i64 y.at_])=(L.set i y).map enC:=by
    rw [List.map_set]
    exact congrArg (List.set _ _) (a7n _ _)
   rw [hrw] at hS
   refine m6 (i + 1,j + 1,L.set i y) (by repeat (first|exact Fr.sub_nil _|(apply Fr.sub_cons;exact rfl))) ⟨by show i + 1 < j + 1;omega,by show j + 1≤l.length;omega,by show (L.set i y).length=_;rw [List.length_set];exact hL,?_,?_⟩ hS.drop (by show l.length - (j + 1) < l.length - j;omega)
   ·show (L.set i y).take (i + 1)=_
    rw [hstep,← htk,a0S (x:=y) (by rw [List.getElem?_set];simp;omega),List.take_set_of_le (Nat.le_refl _)]
    rfl
   ·show (L.set i y).drop (j + 1)=l.drop (j + 1)
    rw [List.drop_set_of_lt (by omega),← List.drop_drop,← List.drop_drop,hdr]
 ·obtain rfl:j=l.length:=by omega
  repeat' (first|(((with_reducible apply d6 c8);exact rfl;exact rfl))|(first|(with_reducible first|apply d8|apply c9|apply d7|apply d5|apply n5|apply j4|apply i9))|(((with_reducible apply k6);exact rfl;all_goals (intro hb hp;try (exfalso;omega))))|((with_reducible apply a39 c8 (j:=i));(iterate 3 exact rfl);((exact rfl));omega;omega;exact rfl))
  refine a1M (b3K hS c8 (i:=0) (k:=i) rfl rfl rfl (by omega) (by rw [List.length_map];omega) (by omega) rfl) ?_
  intro _ w2 hS'
  simp only [List.set] at hS'
  clear hS;have hS:=hS';clear hS'
  rw [show (a0G (L.map enC) (List.replicate (l.length - i) [Value.int .i64 0,Value.int .i64 0,Value.int .i64 0]) i).length=l.length by rw [a1T (by rw [List.length_map];omega),List.length_map,List.length_replicate];omega] at hS
  repeat' (first|(((with_reducible apply d6 c8);exact rfl;exact rfl))|(first|(with_reducible first|apply d8|apply c9|apply d7|apply d5|apply j5))|((with_reducible apply a5n c8 (j:=i));(iterate 3 exact rfl);((exact rfl));omega;exact rfl))
  (apply j6);(repeat (first|exact ResL.nil|(apply ResL.tmp;exact rfl)))
  have hsh:=hS.shrink 0 i rfl (by rw [a1T (by rw [List.length_map];omega),List.length_map];omega)
  rw [List.take_length] at htk
  have hfl:(l.filter fun y=>!p y).length=i:=by rw [← htk,List.length_take];omega
  refine ⟨some ⟨g,0,none⟩,c,by rw [hfl],?_⟩
  simp only [List.set] at hsh
  have hov:(a0G (L.map enC) (List.replicate (l.length - i) [Value.int .i64 0,Value.int .i64 0,Value.int .i64 0]) i).take i=(l.filter fun y=>!p y).map enC:=by
   unfold a0G
   rw [List.take_left' (by rw [List.length_take,List.length_map];omega),← List.map_take,htk]
  rw [hov] at hsh
  exact hsh
theorem ovA {rows Z:List (List Value)} {x:List Value} {i:Nat} (hi:i≤rows.length) (hZ:Z.length=rows.length + 1 - i):a0G (a0G (rows.take i++Z) [x] i) (rows.drop i) (i + 1)=rows.take i++x::rows.drop i:=by
 have hl:(rows.take i).length=i:=by rw [List.length_take];omega
 have e1:a0G (rows.take i++Z) [x] i=rows.take i++x::Z.drop 1:=by
  unfold a0G
  rw [List.take_left' hl,List.drop_append,hl,List.drop_of_length_le (l:=rows.take i) (by rw [hl,List.length_singleton];omega),List.length_singleton,show i + 1 - i=1 by omega]
  rfl
 rw [e1]
 unfold a0G
 rw [List.take_append,hl,List.take_of_length_le (l:=rows.take i) (by rw [hl];omega),List.drop_of_length_le (l:=rows.take i++x::Z.drop 1) (by rw [List.length_append,hl,List.length_cons,List.length_drop,List.length_drop];omega),show i + 1 - i=1 by omega]
 rw [List.take_succ_cons,List.take_zero,List.append_nil,List.append_assoc]
 rfl
theorem ovB {rows:List (List Value)} {x:List Value} {i:Nat} (hi:i < rows.length):a0G (a0G rows (rows.drop i) (i + 1)) [x] i=rows.take i++x::rows.drop i:=by
 have e1:a0G rows (rows.drop i) (i + 1)=rows.take (i + 1)++rows.drop i:=by
  unfold a0G
  rw [List.drop_of_length_le (l:=rows) (i:=i + 1 + (rows.drop i).length) (by rw [List.length_drop];omega),List.append_nil]
 rw [e1]
 unfold a0G
 have hl:(rows.take (i + 1)).length=i + 1:=by rw [List.length_take];omega
 rw [List.take_append,List.take_take,Nat.min_eq_left (by omega),hl,show i - (i + 1)=0 by omega,List.take_zero,List.append_nil,List.length_singleton,List.drop_left' hl]
 rfl
set_option maxRecDepth 100000 in
set_option maxHeartbeats 8000000 in
theorem b2r {F:Nat→Prop} {w0 w:World} {Γ:List Asr} {v u:Value} {l:List En} {e:En} {i:Nat} (hS0:St F w0 w (enA v l::enA u [e]::Γ)) (hi:i≤l.length) (hl:l.length≤100000) :
  Fn Try.prog 87 [v,.int .i64 (i:Nat),u] w (fun v' w'=>∃ q c,v'=.slice q (l.length + 1) c∧St (fps [enA v l,enA u [e]]) w w' [enA v' (l.take i++e::l.drop i)]):=by
 have hS:=St.startM (Δ:=[enA v l,enA u [e]]) hS0
 obtain ⟨pp,c,hpp⟩:=hS.rowSlice 0 rfl
 obtain ⟨pu,cu,hpu⟩:=hS.rowSlice 1 rfl
 rw [show (List.map enC [e]).length=1 from rfl] at hpu
 rw [List.length_map] at hpp
 generalize fps [enA v l,enA u [e]]=G at hS ⊢
 subst hpp hpu
 unfold enA at hS ⊢
 obtain ⟨gu,rfl⟩:=hS.rowSome 1 rfl (by show 0 < 1;omega)
 have hro:RoAt nF w gu 0 3 [enC e]:=hS.rowRo 1 rfl
 refine j0 (fn:=Try.f87) ⟨Try.func87,by kernel_rfl,by kernel_rfl⟩ (by exact rfl) Try.ntmps87 (by exact rfl) ?_
 by_cases hin:i=l.length
 ·subst hin
  repeat' (first|(((with_reducible apply d6 c8);exact rfl;exact rfl))|(first|(with_reducible first|apply d8|apply c9|apply d7|apply d5|apply g8|apply j5|apply e6))|(first|((with_reducible apply l6);exact rfl;(exact rfl))|((with_reducible apply k6);exact rfl;all_goals (intro hb hp;try (exfalso;omega))))|((with_reducible apply a3L c8 (j:=l.length));(iterate 4 exact rfl);omega;exact rfl)|((with_reducible apply a26 hS c8 (i:=0));(iterate 4 exact rfl);exact hS.rowRo 1 rfl;exact rfl;((simp only [List.length_map,List.length_cons,List.length_nil,List.length_append];omega));exact rfl;intro p' cap' w' hS';simp only [List.set] at hS';clear hS;have hS:=hS';clear hS'))
  (apply j6);(repeat (first|exact ResL.nil|(apply ResL.tmp;exact rfl)))
  refine ⟨p',cap',by rw [List.length_map],?_⟩
  rw [List.take_length,List.drop_length,List.map_append]
  exact hS.sub (by repeat (first|exact List.nil_sublist _|apply List.Sublist.cons_cons))
 ·obtain ⟨g,rfl⟩:=hS.rowSome 0 rfl (by omega)
  have hcc:l.length≤c:=by
   rcases hS.rowForm 0 rfl with ⟨h1,-⟩|⟨g',c',h1,h2,-⟩
   ·cases h1
   ·injection h1 with _ _ h3;subst h3;rw [List.length_map] at h2;exact h2
  have hml:(l.map enC).length=l.length:=List.length_map _
  have hdl:((l.map enC).drop i).length=l.length - i:=by rw [List.length_drop,hml]
  by_cases hc:c < l.length + 1
  ·repeat' (first|(first|((with_reducible apply m0);exact rfl;exact rfl;omega;omega;exact rfl)|((with_reducible apply a1X);exact rfl;exact rfl;omega;omega;exact rfl)|((with_reducible apply d6 c8);exact rfl;exact rfl))|(first|(with_reducible first|apply d8|apply c9|apply d7|apply d5|apply g8))|(first|((with_reducible apply l6);exact rfl;(exact rfl))|((with_reducible apply k6);exact rfl;all_goals (intro hb hp;try (exfalso;omega))))|((with_reducible apply a3L c8 (j:=i));(iterate 4 exact rfl);omega;exact rfl)|((with_reducible apply a5n c8 (j:=i));(iterate 3 exact rfl);((exact rfl));omega;exact rfl)|((with_reducible apply b4L c8);(iterate 3 exact rfl)))
   refine y7 rfl (b0X hS c8 (i:=0) (k:=i) (q:=l.length + 1 - i) rfl rfl rfl rfl (by omega) rfl (by omega) (by omega) (by omega) (by omega) rfl) ?_
   rintro _ w2 ⟨g2,c2,rfl,hc2,hS'⟩
   clear hS;have hS:=hS';clear hS'
   have hq:i + (l.length + 1 - i)=l.length + 1:=by omega
   rw [hq] at hS hc2 ⊢
   repeat' (first|(((with_reducible apply d6 c8);exact rfl;exact rfl))|(first|(with_reducible first|apply d8|apply c9|apply d7|apply d5))|((with_reducible apply a39 c8 (j:=i));(iterate 3 exact rfl);((exact rfl));omega;omega;exact rfl))
   have hz1:(List.take i (List.map enC l)++List.replicate (l.length + 1 - i) [Value.int .i64 0,Value.int .i64 0,Value.int .i64 0]).length=l.length + 1:=by rw [List.length_append,List.length_take,List.length_replicate,hml];omega
   refine y7 rfl (a7G hS c8 (i:=0) (k:=i) (news:=[enC e]) rfl rfl rfl rfl (hS.rowRo 2 rfl) (by rw [List.length_singleton];omega) (by rw [hz1];omega) (by rw [List.length_singleton];omega)) ?_
   rintro _ w3 ⟨rfl,hS'⟩
   simp only [List.set] at hS'
   clear hS;have hS:=hS';clear hS'
   have hz2:=a1T (rows:=List.take i (List.map enC l)++List.replicate (l.length + 1 - i) [Value.int .i64 0,Value.int .i64 0,Value.int .i64 0]) (news:=[enC e]) (k:=i) (by rw [hz1];omega)
   rw [hz1,List.length_singleton,Nat.max_eq_left (by omega)] at hz2
   rw [hz2] at hS
   repeat' ((first|(with_reducible first|apply d8|apply d7|apply d5)))
   (focus ((with_reducible apply a0X _ _ _ 8 (by kernel_rfl) (by kernel_rfl) hS);(simp only [List.take_succ_cons,List.take_zero,List.drop_succ_cons,List.drop_zero]);(repeat' (first|(first|((with_reducible apply a1v);exact rfl;exact rfl;omega;omega;exact rfl)|((with_reducible apply o5 c8);exact rfl;exact rfl))|((with_reducible apply a4f c8 (j:=i + 1));(iterate 3 exact rfl);((exact rfl));omega;omega;exact rfl)|((with_reducible apply a4f c8 (j:=i));(iterate 3 exact rfl);((exact rfl));omega;omega;exact rfl)));all_goals ((with_reducible apply r5);intro w' hS';clear hS;have hS:=hS';clear hS')))
   refine y7 rfl (a7G hS c8 (i:=0) (k:=i + 1) (news:=(l.map enC).drop i) rfl rfl rfl rfl ((hS.rowRo 1 rfl).drop i) (by rw [hdl];omega) (by rw [hz2];omega) (by rw [hdl];omega)) ?_
   rintro _ w4 ⟨rfl,hS'⟩
   simp only [List.set] at hS'
   clear hS;have hS:=hS';clear hS'
   rw [ovA (by rw [hml];exact hi) (by rw [List.length_replicate,hml])] at hS
   have hz3:(List.take i (List.map enC l)++enC e::(List.map enC l).drop i).length=l.length + 1:=by rw [List.length_append,List.length_take,List.length_cons,List.length_drop,hml];omega
   rw [hz3] at hS
   repeat' (first|(((with_reducible apply d6 c8);exact rfl;exact rfl))|(first|(with_reducible first|apply d8|apply c9|apply d7|apply d5|apply j5|apply e6)))
   (apply j6);(repeat (first|exact ResL.nil|(apply ResL.tmp;exact rfl)))
   refine ⟨_,_,rfl,?_⟩
   rw [List.map_append,List.map_cons,List.map_take,List.map_drop]
   exact hS.sub (by repeat (first|exact List.nil_sublist _|apply List.Sublist.cons_cons))
  ·have hap:=fun w1 (h:St G w w1 [.row 55 3 (.slice (some ⟨g,0,none⟩) l.length c) (l.map enC),.row 55 3 (.slice (some ⟨gu,0,none⟩) 1 cu) (List.map enC [e])])=>b0D h c8 (t:=39) (tR:=4) (i:=1) (j:=0) (o:=0 + (i + 1) * 3) (lb:=l.length + 1 - (i + 1)) (cb:=c - (i + 1)) rfl rfl rfl (by omega) (by omega)
   repeat' (first|(first|((with_reducible apply m0);exact rfl;exact rfl;omega;omega;exact rfl)|((with_reducible apply d6 c8);exact rfl;exact rfl))|(first|(with_reducible first|apply d8|apply c9|apply d7|apply d5|apply g8))|(first|((with_reducible apply k9);exact rfl;(exact rfl))|((with_reducible apply l6);exact rfl;(exact rfl))|((with_reducible apply k6);exact rfl;all_goals (intro hb hp;try (exfalso;omega))))|((with_reducible apply a3L c8 (j:=i));(iterate 4 exact rfl);omega;exact rfl)|((with_reducible apply a5n c8 (j:=l.length + 1));(iterate 3 exact rfl);((exact rfl));omega;exact rfl)|((with_reducible apply a39 c8 (j:=i + 1));(iterate 3 exact rfl);((exact rfl));omega;omega;exact rfl)|((with_reducible apply b4L c8);(iterate 3 exact rfl))|((with_reducible apply b1L Try.func94 (by kernel_rfl) (by kernel_rfl) (by kernel_rfl) (by kernel_rfl));exact rfl;exact rfl;exact hap _ hS;exact rfl))
   (focus ((with_reducible apply a0X _ _ _ 8 (by kernel_rfl) (by kernel_rfl) hS);(simp only [List.take_succ_cons,List.take_zero,List.drop_succ_cons,List.drop_zero]);(repeat' (first|(first|((with_reducible apply a1v);exact rfl;exact rfl;omega;omega;exact rfl)|((with_reducible apply o5 c8);exact rfl;exact rfl))|((with_reducible apply a4f c8 (j:=i + 1));(iterate 3 exact rfl);((exact rfl));omega;omega;exact rfl)|((with_reducible apply a4f c8 (j:=i));(iterate 3 exact rfl);((exact rfl));omega;omega;exact rfl)));all_goals ((with_reducible apply r5);intro w' hS';clear hS;have hS:=hS';clear hS')))
   refine y7 rfl (a7G hS c8 (i:=0) (k:=i + 1) (news:=(l.map enC).drop i) rfl rfl rfl rfl ((hS.rowRo 0 rfl).drop i) (by rw [hdl];omega) (by rw [hml];omega) (by rw [hdl];omega)) ?_
   rintro _ w4 ⟨rfl,hS'⟩
   simp only [List.set] at hS'
   clear hS;have hS:=hS';clear hS'
   have hz2:=a1T (rows:=l.map enC) (news:=(l.map enC).drop i) (k:=i + 1) (by rw [hml];omega)
   rw [hml,hdl,show max l.length (i + 1 + (l.length - i))=l.length + 1 by omega] at hz2
   rw [hz2] at hS
   repeat' (first|(((with_reducible apply d6 c8);exact rfl;exact rfl))|(first|(with_reducible first|apply d8|apply c9|apply d7|apply d5))|((with_reducible apply a39 c8 (j:=i));(iterate 3 exact rfl);((exact rfl));omega;omega;exact rfl))
   refine y7 rfl (a7G hS c8 (i:=0) (k:=i) (news:=[enC e]) rfl rfl rfl rfl (hS.rowRo 1 rfl) (by rw [List.length_singleton];omega) (by rw [hz2];omega) (by rw [List.length_singleton];omega)) ?_
   rintro _ w3 ⟨rfl,hS'⟩
   simp only [List.set] at hS'
   clear hS;have hS:=hS';clear hS'
   rw [ovB (by rw [hml];omega)] at hS
   have hz3:(List.take i (List.map enC l)++enC e::(List.map enC l).drop i).length=l.length + 1:=by rw [List.length_append,List.length_take,List.length_cons,List.length_drop,hml];omega
   rw [hz3] at hS
   repeat' (first|(((with_reducible apply d6 c8);exact rfl;exact rfl))|(first|(with_reducible first|apply d8|apply c9|apply d7|apply d5|apply j5|apply e6)))
   (apply j6);(repeat (first|exact ResL.nil|(apply ResL.tmp;exact rfl)))
   refine ⟨_,_,rfl,?_⟩
   rw [List.map_append,List.map_cons,List.map_take,List.map_drop]
   exact hS.sub (by repeat (first|exact List.nil_sublist _|apply List.Sublist.cons_cons))
end Go.Proofs.Ytejnpppejalhfac
/- slices.Clone at the kernel's types. -/
namespace Go.Proofs.Ytejnpppejalhfac
open Go.RowKit Go.Sort
set_option maxRecDepth 100000 in
set_option maxHeartbeats 8000000 in
theorem a5y {α:Type} {f:α→List Value} {l:List α} {w:World} {v:Value} (hL:Sl nF w 4 v (l.map f)) (hl:l.length≤100000):Fn Try.prog 31 [v] w (fun v' w'=>∃ q c,v'=.slice q l.length c∧St nF w w' [.row 43 4 v' (l.map f)]):=by
 obtain ⟨pp,c,rfl⟩:=hL.len
 refine j0 (fn:=Try.f31) ⟨Try.func31,by kernel_rfl,by kernel_rfl⟩ (by exact rfl) Try.ntmps31 (by exact rfl) ?_
 have hS:=St.start w
 cases pp with
 |none=>
  have h0:l.map f=[]:=by
   rcases hL with ⟨p,c',h1,h2⟩|⟨b,off,cap,h1,-⟩
   ·exact h2
   ·cases h1
  have h1:l.length=0:=by simpa using h0
  repeat' (first|(((with_reducible apply d6 c8);exact rfl;exact rfl))|(first|(with_reducible first|apply d8|apply c9|apply d7|apply d5|apply j5|apply e6))|(((with_reducible apply k9);exact rfl;(exact rfl)))|((with_reducible apply a1r c8);(iterate 4 exact rfl)))
  (apply j6);(repeat (first|exact ResL.nil|(apply ResL.tmp;exact rfl)))
  refine ⟨none,0,by rw [h1],?_⟩
  rw [h0]
  exact (hS.sub (List.nil_sublist _)).addNil _ _
 |some p=>
  repeat' (first|(first|((with_reducible apply d6 c8);exact rfl;exact rfl)|((with_reducible apply a0v hS c8);(iterate 7 exact rfl);intro g w' hS';clear hS;have hS:=hS';clear hS'))|(first|(with_reducible first|apply d8|apply c9|apply d7|apply d5|apply g8|apply j5))|(((with_reducible apply l6);exact rfl;(exact rfl)))|((with_reducible apply a1r c8);(iterate 4 exact rfl))|((with_reducible apply a0P hS c8 (i:=0));(iterate 4 exact rfl);exact (hL.now hS);((simp only [List.length_map,List.length_cons,List.length_nil,List.length_append];omega));exact rfl;intro p' cap' w' hS';simp only [List.set] at hS';clear hS;have hS:=hS';clear hS'))
  (apply j6);(repeat (first|exact ResL.nil|(apply ResL.tmp;exact rfl)))
  refine ⟨p',cap',by rw [List.length_nil,Nat.zero_add,List.length_map],?_⟩
  rw [List.nil_append] at hS
  exact hS.sub (by repeat ((exact List.Sublist.refl _)))
set_option maxRecDepth 100000 in
set_option maxHeartbeats 8000000 in
theorem a3S {α:Type} {f:α→List Value} {l:List α} {w:World} {v:Value} (hL:Sl nF w 2 v (l.map f)) (hl:l.length≤100000):Fn Try.prog 32 [v] w (fun v' w'=>∃ q c,v'=.slice q l.length c∧St nF w w' [.row 45 2 v' (l.map f)]):=by
 obtain ⟨pp,c,rfl⟩:=hL.len
 refine j0 (fn:=Try.f32) ⟨Try.func32,by kernel_rfl,by kernel_rfl⟩ (by exact rfl) Try.ntmps32 (by exact rfl) ?_
 have hS:=St.start w
 cases pp with
 |none=>
  have h0:l.map f=[]:=by
   rcases hL with ⟨p,c',h1,h2⟩|⟨b,off,cap,h1,-⟩
   ·exact h2
   ·cases h1
  have h1:l.length=0:=by simpa using h0
  repeat' (first|(((with_reducible apply d6 c8);exact rfl;exact rfl))|(first|(with_reducible first|apply d8|apply c9|apply d7|apply d5|apply j5|apply e6))|(((with_reducible apply k9);exact rfl;(exact rfl)))|((with_reducible apply a1r c8);(iterate 4 exact rfl)))
  (apply j6);(repeat (first|exact ResL.nil|(apply ResL.tmp;exact rfl)))
  refine ⟨none,0,by rw [h1],?_⟩
  rw [h0]
  exact (hS.sub (List.nil_sublist _)).addNil _ _
 |some p=>
  repeat' (first|(first|((with_reducible apply d6 c8);exact rfl;exact rfl)|((with_reducible apply a0v hS c8);(iterate 7 exact rfl);intro g w' hS';clear hS;have hS:=hS';clear hS'))|(first|(with_reducible first|apply d8|apply c9|apply d7|apply d5|apply g8|apply j5))|(((with_reducible apply l6);exact rfl;(exact rfl)))|((with_reducible apply a1r c8);(iterate 4 exact rfl))|((with_reducible apply a0P hS c8 (i:=0));(iterate 4 exact rfl);exact (hL.now hS);((simp only [List.length_map,List.length_cons,List.length_nil,List.length_append];omega));exact rfl;intro p' cap' w' hS';simp only [List.set] at hS';clear hS;have hS:=hS';clear hS'))
  (apply j6);(repeat (first|exact ResL.nil|(apply ResL.tmp;exact rfl)))
  refine ⟨p',cap',by rw [List.length_nil,Nat.zero_add,List.length_map],?_⟩
  rw [List.nil_append] at hS
  exact hS.sub (by repeat ((exact List.Sublist.refl _)))
set_option maxRecDepth 100000 in
set_option maxHeartbeats 8000000 in
theorem a9Q {α:Type} {f:α→List Value} {l:List α} {w:World} {v:Value} (hL:Sl nF w 2 v (l.map f)) (hl:l.length≤100000):Fn Try.prog 33 [v] w (fun v' w'=>∃ q c,v'=.slice q l.length c∧St nF w w' [.row 100 2 v' (l.map f)]):=by
 obtain ⟨pp,c,rfl⟩:=hL.len
 refine j0 (fn:=Try.f33) ⟨Try.func33,by kernel_rfl,by kernel_rfl⟩ (by exact rfl) Try.ntmps33 (by exact rfl) ?_
 have hS:=St.start w
 cases pp with
 |none=>
  have h0:l.map f=[]:=by
   rcases hL with ⟨p,c',h1,h2⟩|⟨b,off,cap,h1,-⟩
   ·exact h2
   ·cases h1
  have h1:l.length=0:=by simpa using h0
  repeat' (first|(((with_reducible apply d6 c8);exact rfl;exact rfl))|(first|(with_reducible first|apply d8|apply c9|apply d7|apply d5|apply j5|apply e6))|(((with_reducible apply k9);exact rfl;(exact rfl)))|((with_reducible apply a1r c8);(iterate 4 exact rfl)))
  (apply j6);(repeat (first|exact ResL.nil|(apply ResL.tmp;exact rfl)))
  refine ⟨none,0,by rw [h1],?_⟩
  rw [h0]
  exact (hS.sub (List.nil_sublist _)).addNil _ _
 |some p=>
  repeat' (first|(first|((with_reducible apply d6 c8);exact rfl;exact rfl)|((with_reducible apply a0v hS c8);(iterate 7 exact rfl);intro g w' hS';clear hS;have hS:=hS';clear hS'))|(first|(with_reducible first|apply d8|apply c9|apply d7|apply d5|apply g8|apply j5))|(((with_reducible apply l6);exact rfl;(exact rfl)))|((with_reducible apply a1r c8);(iterate 4 exact rfl))|((with_reducible apply a0P hS c8 (i:=0));(iterate 4 exact rfl);exact (hL.now hS);((simp only [List.length_map,List.length_cons,List.length_nil,List.length_append];omega));exact rfl;intro p' cap' w' hS';simp only [List.set] at hS';clear hS;have hS:=hS';clear hS'))
  (apply j6);(repeat (first|exact ResL.nil|(apply ResL.tmp;exact rfl)))
  refine ⟨p',cap',by rw [List.length_nil,Nat.zero_add,List.length_map],?_⟩
  rw [List.nil_append] at hS
  exact hS.sub (by repeat ((exact List.Sublist.refl _)))
set_option maxRecDepth 100000 in
set_option maxHeartbeats 8000000 in
theorem a9R {α:Type} {f:α→List Value} {l:List α} {w:World} {v:Value} (hL:Sl nF w 4 v (l.map f)) (hl:l.length≤100000):Fn Try.prog 34 [v] w (fun v' w'=>∃ q c,v'=.slice q l.length c∧St nF w w' [.row 71 4 v' (l.map f)]):=by
 obtain ⟨pp,c,rfl⟩:=hL.len
 refine j0 (fn:=Try.f34) ⟨Try.func34,by kernel_rfl,by kernel_rfl⟩ (by exact rfl) Try.ntmps34 (by exact rfl) ?_
 have hS:=St.start w
 cases pp with
 |none=>
  have h0:l.map f=[]:=by
   rcases hL with ⟨p,c',h1,h2⟩|⟨b,off,cap,h1,-⟩
   ·exact h2
   ·cases h1
  have h1:l.length=0:=by simpa using h0
  repeat' (first|(((with_reducible apply d6 c8);exact rfl;exact rfl))|(first|(with_reducible first|apply d8|apply c9|apply d7|apply d5|apply j5|apply e6))|(((with_reducible apply k9);exact rfl;(exact rfl)))|((with_reducible apply a1r c8);(iterate 4 exact rfl)))
  (apply j6);(repeat (first|exact ResL.nil|(apply ResL.tmp;exact rfl)))
  refine ⟨none,0,by rw [h1],?_⟩
  rw [h0]
  exact (hS.sub (List.nil_sublist _)).addNil _ _
 |some p=>
  repeat' (first|(first|((with_reducible apply d6 c8);exact rfl;exact rfl)|((with_reducible apply a0v hS c8);(iterate 7 exact rfl);intro g w' hS';clear hS;have hS:=hS';clear hS'))|(first|(with_reducible first|apply d8|apply c9|apply d7|apply d5|apply g8|apply j5))|(((with_reducible apply l6);exact rfl;(exact rfl)))|((with_reducible apply a1r c8);(iterate 4 exact rfl))|((with_reducible apply a0P hS c8 (i:=0));(iterate 4 exact rfl);exact (hL.now hS);((simp only [List.length_map,List.length_cons,List.length_nil,List.length_append];omega));exact rfl;intro p' cap' w' hS';simp only [List.set] at hS';clear hS;have hS:=hS';clear hS'))
  (apply j6);(repeat (first|exact ResL.nil|(apply ResL.tmp;exact rfl)))
  refine ⟨p',cap',by rw [List.length_nil,Nat.zero_add,List.length_map],?_⟩
  rw [List.nil_append] at hS
  exact hS.sub (by repeat ((exact List.Sublist.refl _)))
set_option maxRecDepth 100000 in
set_option maxHeartbeats 8000000 in
theorem a8Y {α:Type} {f:α→List Value} {l:List α} {w:World} {v:Value} (hL:Sl nF w 3 v (l.map f)) (hl:l.length≤100000):Fn Try.prog 35 [v] w (fun v' w'=>∃ q c,v'=.slice q l.length c∧St nF w w' [.row 55 3 v' (l.map f)]):=by
 obtain ⟨pp,c,rfl⟩:=hL.len
 refine j0 (fn:=Try.f35) ⟨Try.func35,by kernel_rfl,by kernel_rfl⟩ (by exact rfl) Try.ntmps35 (by exact rfl) ?_
 have hS:=St.start w
 cases pp with
 |none=>
  have h0:l.map f=[]:=by
   rcases hL with ⟨p,c',h1,h2⟩|⟨b,off,cap,h1,-⟩
   ·exact h2
   ·cases h1
  have h1:l.length=0:=by simpa using h0
  repeat' (first|(((with_reducible apply d6 c8);exact rfl;exact rfl))|(first|(with_reducible first|apply d8|apply c9|apply d7|apply d5|apply j5|apply e6))|(((with_reducible apply k9);exact rfl;(exact rfl)))|((with_reducible apply a1r c8);(iterate 4 exact rfl)))
  (apply j6);(repeat (first|exact ResL.nil|(apply ResL.tmp;exact rfl)))
  refine ⟨none,0,by rw [h1],?_⟩
  rw [h0]
  exact (hS.sub (List.nil_sublist _)).addNil _ _
 |some p=>
  repeat' (first|(first|((with_reducible apply d6 c8);exact rfl;exact rfl)|((with_reducible apply a0v hS c8);(iterate 7 exact rfl);intro g w' hS';clear hS;have hS:=hS';clear hS'))|(first|(with_reducible first|apply d8|apply c9|apply d7|apply d5|apply g8|apply j5))|(((with_reducible apply l6);exact rfl;(exact rfl)))|((with_reducible apply a1r c8);(iterate 4 exact rfl))|((with_reducible apply a0P hS c8 (i:=0));(iterate 4 exact rfl);exact (hL.now hS);((simp only [List.length_map,List.length_cons,List.length_nil,List.length_append];omega));exact rfl;intro p' cap' w' hS';simp only [List.set] at hS';clear hS;have hS:=hS';clear hS'))
  (apply j6);(repeat (first|exact ResL.nil|(apply ResL.tmp;exact rfl)))
  refine ⟨p',cap',by rw [List.length_nil,Nat.zero_add,List.length_map],?_⟩
  rw [List.nil_append] at hS
  exact hS.sub (by repeat ((exact List.Sublist.refl _)))
end Go.Proofs.Ytejnpppejalhfac
/- kernel.own: a kernel of new memory. -/
namespace Go.Proofs.Ytejnpppejalhfac
open Go.RowKit Go.Sort
def fxA (x:Sh×Value):Asr:=.row 100 2 x.2 (x.1.fixes.map fxC)
def a3j (p:Sp):Asr:=.row 71 4 p.va (p.s.areas.map arC)
def a0k (p:Sp):Asr:=.row 55 3 p.ve (p.s.entries.map enC)
def spA (l:List Sp):List Asr:=l.flatMap fun p=>[a3j p,a0k p]
theorem b10 (l:List Sp) (p:Sp):spA (l++[p])=spA l++[a3j p,a0k p]:=by unfold spA;rw [List.flatMap_append,List.flatMap_cons,List.flatMap_nil,List.append_nil]
def a5C (N:List (Sh×Value)):List (List Value):=N.map fun p=>shC p.1 p.2
def kA (k:KV):List Asr:=.row 97 3 k.vsh (a5C k.sh)::.row 43 4 k.vfr (k.fr.map fmC)::.row 45 2 k.vsl (k.sl.map swC)::.row 41 3 k.vsp (k.sp.map spC)::(k.sh.map fxA++spA k.sp)
structure KBd (k:KV):Prop where
 fr:k.fr.length≤1000
 sl:k.sl.length≤1000
 sh:k.sh.length≤1000
 sp:k.sp.length≤1000
 fx:∀ x ∈ k.sh,x.1.fixes.length≤1000
 ar:∀ p ∈ k.sp,p.s.areas.length≤1000
 en:∀ p ∈ k.sp,p.s.entries.length≤1000
set_option maxRecDepth 100000 in
set_option maxHeartbeats 8000000 in
theorem a9w {w:World} {k:KV} (hK:KerV w k) (hB:KBd k):Fn Try.prog 14 [.agg (kvC k).toArray] w (fun v w'=>∃ k':KV,v=.agg (kvC k').toArray∧k'.K=k.K∧St nF w w' (kA k')):=by
 obtain ⟨sh,fr,sl,sp,hand,vsh,vfr,vsl,vsp⟩:=k
 obtain ⟨k1,k2,k3,k4,k5⟩:=hK
 obtain ⟨b1,b2,b3,b4,b5,b6,b7⟩:=hB
 dsimp only at k1 k2 k3 k4 k5 b1 b2 b3 b4 b5 b6 b7 ⊢
 obtain ⟨p1,c1,rfl⟩:=k1.sl.len
 obtain ⟨p2,c2,rfl⟩:=k2.len
 obtain ⟨p3,c3,rfl⟩:=k3.len
 obtain ⟨p4,c4,rfl⟩:=k4.len
 unfold kvC
 dsimp only
 refine j0 (fn:=Try.f14) ⟨Try.func14,by kernel_rfl,by kernel_rfl⟩ (by exact rfl) Try.ntmps14 (by exact rfl) ?_
 have hS:=St.start w
 repeat' (first|(first|((with_reducible apply p7 hS);(iterate 3 exact rfl);intro g w' hS';clear hS;have hS:=hS';clear hS')|((with_reducible apply j7 hS c8);(iterate 3 exact rfl);intro g w' hS';clear hS;have hS:=hS';clear hS'))|(first|(with_reducible first|apply d8|apply c9|apply d7|apply d5)))
 rename Nat=>g2
 obtain ⟨g1,hg2⟩:∃ q,q=g:=⟨_,rfl⟩
 rw [← hg2] at hS ⊢
 clear hg2 g
 replace hS:St nF w w' (.blk g2 [.slice none 0 0,.slice none 0 0,.slice none 0 0,.slice none 0 0,.int .i64 0]::.blk g1 [.slice p1 sh.length c1,.slice p2 fr.length c2,.slice p3 sl.length c3,.slice p4 sp.length c4,.int .i64 hand]::[]):=hS
 refine a4O (F:=nF) (w0:=w) (X:=Nat×Option Addr×Nat×Option Addr×Nat) (fun x=>[(1,.pointer (some ⟨g1,0,none⟩)),(2,.pointer (some ⟨g2,0,none⟩)),(3,.pointer (some ⟨x.1,0,none⟩))]) (fun x=>[.blk x.1 [.slice none 0 0,.slice x.2.1 fr.length x.2.2.1,.slice x.2.2.2.1 sl.length x.2.2.2.2,.slice none 0 0,.int .i64 hand],.row 43 4 (.slice x.2.1 fr.length x.2.2.1) (fr.map fmC),.row 45 2 (.slice x.2.2.2.1 sl.length x.2.2.2.2) (sl.map swC),.blk g2 [.slice none 0 0,.slice none 0 0,.slice none 0 0,.slice none 0 0,.int .i64 0],.blk g1 [.slice p1 sh.length c1,.slice p2 fr.length c2,.slice p3 sl.length c3,.slice p4 sp.length c4,.int .i64 hand]]) (fun _=>True) ?_ ?_
 ·refine a7w 11 rfl hS (by kernel_rfl) ?_
  intro wh hh
  clear hS
  have hS:=hh
  clear hh
  ((with_reducible apply n8 0 c8);exact rfl;kernel_rfl;kernel_rfl;kernel_rfl;exact (fun _ _ _ h=>h);exact (hS.sub (by repeat ((exact List.Sublist.refl _))));exact rfl;exact rfl)
  ((with_reducible apply v6 1);exact rfl;kernel_rfl;kernel_rfl;kernel_rfl;exact (fun _ _ _ h=>h);exact (hS.sub (by repeat ((exact List.Sublist.refl _))));exact rfl;(intro wd hd;replace hd:St _ _ wd _:=hd;(((with_reducible apply Loads.sc c8);exact rfl;((exact hd.blkC 1 rfl rfl)))));exact rfl)
  ((with_reducible apply n8 2 c8);exact rfl;kernel_rfl;kernel_rfl;kernel_rfl;exact (fun _ _ _ h=>h);exact (hS.sub (by repeat ((exact List.Sublist.refl _))));exact rfl;exact rfl)
  ((with_reducible apply v6 3);exact rfl;kernel_rfl;kernel_rfl;kernel_rfl;exact (fun _ _ _ h=>h);exact (hS.sub (by repeat ((exact List.Sublist.refl _))));exact rfl;(intro wd hd;replace hd:St _ _ wd _:=hd;(((with_reducible apply Loads.sl c8);exact rfl;((exact hd.blkC 1 rfl rfl)))));exact rfl)
  ((with_reducible apply n8 5 c8);exact rfl;kernel_rfl;kernel_rfl;kernel_rfl;exact (fun _ _ _ h=>h);exact (hS.sub (by repeat ((exact List.Sublist.refl _))));exact rfl;exact rfl)
  ((with_reducible apply v6 6);exact rfl;kernel_rfl;kernel_rfl;kernel_rfl;exact (fun _ _ _ h=>h);exact (hS.sub (by repeat ((exact List.Sublist.refl _))));exact rfl;(intro wd hd;replace hd:St _ _ wd _:=hd;(((with_reducible apply Loads.sl c8);exact rfl;((exact hd.blkC 1 rfl rfl)))));exact rfl)
  refine a20 (i:=4) (j:=9) (by kernel_rfl) ?_ ?_
  ·refine o7 rfl (a0o (first:=[]) (caps:=[]) rfl rfl (a5y (k2.now hS) (by omega))) rfl ?_
   rintro _ w' ⟨qF,cF,rfl,hS'⟩
   replace hS:=hS.transA hS'
   simp only [k7] at hS
   clear hS'
   refine ⟨(hS.sub (by repeat (first|exact List.Sublist.refl _|apply List.Sublist.cons))),?_⟩
   refine a20 (i:=7) (j:=9) (by kernel_rfl) ?_ ?_
   ·refine o7 rfl (a0o (first:=[]) (caps:=[]) rfl rfl (a3S (k3.now hS) (by omega))) rfl ?_
    rintro _ w' ⟨qS,cS,rfl,hS'⟩
    replace hS:=hS.transA hS'
    simp only [k7] at hS
    clear hS'
    refine ⟨(hS.sub (by repeat (first|exact List.Sublist.refl _|apply List.Sublist.cons))),?_⟩
    ((with_reducible apply x6 8 c8);exact rfl;kernel_rfl;kernel_rfl;kernel_rfl;exact (fun _ _ _ _ h=>h);exact (hS.sub (by repeat (first|exact List.Sublist.refl _|apply List.Sublist.cons)));exact rfl;exact rfl;((exact (rfl:_=some [_,_,_,_,_])));exact rfl)
    refine o9 (i:=9) (by kernel_rfl) ?_
    refine o7 rfl (a0r hS c8 rfl rfl) rfl ?_
    rintro _ w' ⟨g3,rfl,hS'⟩
    clear hS;have hS:=hS';clear hS'
    refine ⟨(hS.sub (by repeat (first|exact List.Sublist.refl _|apply List.Sublist.cons))),?_⟩
    refine o9 (i:=10) (by kernel_rfl) ?_
    refine q9 (Φ:=fun _ w'=>St _ _ w' _) rfl (o8 hS c8 (i:=0) rfl rfl rfl rfl rfl (Nat.le_of_ble_eq_true rfl) (List.all_eq_true.1 rfl)) ?_
    intro _ w' hS'
    simp only [List.set] at hS'
    clear hS;have hS:=hS';clear hS'
    refine ⟨(hS.sub (by repeat (first|exact List.Sublist.refl _|apply List.Sublist.cons))),?_⟩
    refine y0 (by kernel_rfl) ?_
    replace hS:=St.reorder [0,2,1,3,4] hS (by decide) rfl
    exact a0e (g3,qF,cF,qS,cS) (by repeat (first|exact Fr.sub_nil _|(apply Fr.sub_cons;exact rfl))) trivial hS
   ·refine o7 rfl (a0r hS c8 rfl rfl) rfl ?_
    rintro _ w' ⟨g3,rfl,hS'⟩
    clear hS;have hS:=hS';clear hS'
    refine ⟨(hS.sub (by repeat (first|exact List.Sublist.refl _|apply List.Sublist.cons))),?_⟩
    refine o9 (i:=7) (by kernel_rfl) ?_
    refine o7 rfl (a0o (first:=[]) (caps:=[]) rfl rfl (a3S (k3.now hS) (by omega))) rfl ?_
    rintro _ w' ⟨qS,cS,rfl,hS'⟩
    replace hS:=hS.transA hS'
    simp only [k7] at hS
    clear hS'
    refine ⟨(hS.sub (by repeat (first|exact List.Sublist.refl _|apply List.Sublist.cons))),?_⟩
    ((with_reducible apply x6 8 c8);exact rfl;kernel_rfl;kernel_rfl;kernel_rfl;exact (fun _ _ _ _ h=>h);exact (hS.sub (by repeat (first|exact List.Sublist.refl _|apply List.Sublist.cons)));exact rfl;exact rfl;((exact (rfl:_=some [_,_,_,_,_])));exact rfl)
    refine o9 (i:=10) (by kernel_rfl) ?_
    refine q9 (Φ:=fun _ w'=>St _ _ w' _) rfl (o8 hS c8 (i:=1) rfl rfl rfl rfl rfl (Nat.le_of_ble_eq_true rfl) (List.all_eq_true.1 rfl)) ?_
    intro _ w' hS'
    simp only [List.set] at hS'
    clear hS;have hS:=hS';clear hS'
    refine ⟨(hS.sub (by repeat (first|exact List.Sublist.refl _|apply List.Sublist.cons))),?_⟩
    refine y0 (by kernel_rfl) ?_
    replace hS:=St.reorder [1,2,0,3,4] hS (by decide) rfl
    exact a0e (g3,qF,cF,qS,cS) (by repeat (first|exact Fr.sub_nil _|(apply Fr.sub_cons;exact rfl))) trivial hS
  ·refine o7 rfl (a0r hS c8 rfl rfl) rfl ?_
   rintro _ w' ⟨g3,rfl,hS'⟩
   clear hS;have hS:=hS';clear hS'
   refine ⟨(hS.sub (by repeat (first|exact List.Sublist.refl _|apply List.Sublist.cons))),?_⟩
   refine o9 (i:=4) (by kernel_rfl) ?_
   refine o7 rfl (a0o (first:=[]) (caps:=[]) rfl rfl (a5y (k2.now hS) (by omega))) rfl ?_
   rintro _ w' ⟨qF,cF,rfl,hS'⟩
   replace hS:=hS.transA hS'
   simp only [k7] at hS
   clear hS'
   refine ⟨(hS.sub (by repeat (first|exact List.Sublist.refl _|apply List.Sublist.cons))),?_⟩
   refine o9 (i:=7) (by kernel_rfl) ?_
   refine o7 rfl (a0o (first:=[]) (caps:=[]) rfl rfl (a3S (k3.now hS) (by omega))) rfl ?_
   rintro _ w' ⟨qS,cS,rfl,hS'⟩
   replace hS:=hS.transA hS'
   simp only [k7] at hS
   clear hS'
   refine ⟨(hS.sub (by repeat (first|exact List.Sublist.refl _|apply List.Sublist.cons))),?_⟩
   ((with_reducible apply x6 8 c8);exact rfl;kernel_rfl;kernel_rfl;kernel_rfl;exact (fun _ _ _ _ h=>h);exact (hS.sub (by repeat (first|exact List.Sublist.refl _|apply List.Sublist.cons)));exact rfl;exact rfl;((exact (rfl:_=some [_,_,_,_,_])));exact rfl)
   refine o9 (i:=10) (by kernel_rfl) ?_
   refine q9 (Φ:=fun _ w'=>St _ _ w' _) rfl (o8 hS c8 (i:=2) rfl rfl rfl rfl rfl (Nat.le_of_ble_eq_true rfl) (List.all_eq_true.1 rfl)) ?_
   intro _ w' hS'
   simp only [List.set] at hS'
   clear hS;have hS:=hS';clear hS'
   refine ⟨(hS.sub (by repeat (first|exact List.Sublist.refl _|apply List.Sublist.cons))),?_⟩
   refine y0 (by kernel_rfl) ?_
   replace hS:=St.reorder [2,1,0,3,4] hS (by decide) rfl
   exact a0e (g3,qF,cF,qS,cS) (by repeat (first|exact Fr.sub_nil _|(apply Fr.sub_cons;exact rfl))) trivial hS
 clear hS
 rintro ⟨g3,qF,cF,qS,cS⟩ w1 - hS
 dsimp only at hS ⊢
 replace hS:=hS.addNil 97 3
 repeat' (first|(first|((with_reducible apply d6 c8);exact rfl;exact rfl)|((with_reducible apply d9);exact rfl;(((with_reducible apply Loads.sl c8);exact rfl;((exact hS.blkC 5 rfl rfl))));exact rfl))|(first|(with_reducible first|apply d8|apply c9|apply d7|apply d5|apply e7)))
 have hsl1:=k1.sl
 refine o6 (X:=Option Addr×Nat×List (Sh×Value)) (fun x=>[(20,.int .i64 (x.2.2.length:Nat))]) [1,2,3,18,19] rfl (fun x=>[.row 97 3 (.slice x.1 x.2.2.length x.2.1) (a5C x.2.2),.blk g3 [.slice x.1 x.2.2.length x.2.1,.slice qF fr.length cF,.slice qS sl.length cS,.slice none 0 0,.int .i64 hand],.row 43 4 (.slice qF fr.length cF) (fr.map fmC),.row 45 2 (.slice qS sl.length cS) (sl.map swC),.blk g2 [.slice none 0 0,.slice none 0 0,.slice none 0 0,.slice none 0 0,.int .i64 0],.blk g1 [.slice p1 sh.length c1,.slice p2 fr.length c2,.slice p3 sl.length c3,.slice p4 sp.length c4,.int .i64 hand]]++x.2.2.map fxA) (Γ:=[]) (fun x=>x.2.2.length≤sh.length∧shs x.2.2=(shs sh).take x.2.2.length) (fun x=>sh.length - x.2.2.length) (none,0,[]) (by repeat (first|exact Fr.sub_nil _|(apply Fr.sub_cons;exact rfl))) ⟨Nat.zero_le _,rfl⟩ hS ?_
 clear hS
 rintro ⟨qH,cH,N⟩ w1 ⟨hN,hNs⟩ hS
 dsimp only [List.cons_append,List.nil_append,List.append_nil] at hN hNs hS ⊢
 rw [List.append_nil] at hS
 by_cases hlt:N.length < sh.length
 ·obtain ⟨x,hx⟩:=l8 (l:=sh) (i:=N.length) (by omega)
  have hrow:=j9 (f:=fun p:Sh×Value=>shC p.1 p.2) hx
  obtain ⟨b,off,rfl,hro⟩:=hsl1.at_ (i:=N.length) hlt
  have hfx:=k1.fx x (List.mem_of_getElem? hx)
  have hfl:=b5 x (List.mem_of_getElem? hx)
  obtain ⟨S,u⟩:=x
  dsimp only [shC] at hrow hfx hfl
  obtain ⟨pu,cu,rfl⟩:=hfx.len
  repeat' (first|(first|((with_reducible apply d6 c8);exact rfl;exact rfl)|((with_reducible apply d9);exact rfl;(first|((with_reducible apply Loads.sl c8);exact rfl;(first|exact hS.blkC 0 rfl rfl|exact hS.blkC 3 rfl rfl))|((with_reducible apply Loads.st c8);exact rfl;(first|exact hS.blkR 1 rfl|exact hS.roR (by assumption) (by assumption));exact rfl));exact rfl)|((with_reducible apply p8 c8);(iterate 3 exact rfl);((exact rfl));((omega));exact rfl)|((with_reducible apply j7 hS c8);(iterate 3 exact rfl);intro g w' hS';clear hS;have hS:=hS';clear hS')|(first|((with_reducible apply i7 hS c8 (i:=0));(iterate 8 exact rfl);((exact (rfl:_=[_,_,_])));intro w' hS';simp only [List.set] at hS';clear hS;have hS:=hS';clear hS')|((with_reducible apply i7 hS c8 (i:=1));(iterate 8 exact rfl);((exact (rfl:_=[_,_,_])));intro w' hS';simp only [List.set] at hS';clear hS;have hS:=hS';clear hS'))|((with_reducible apply a0v hS c8);(iterate 7 exact rfl);intro g w' hS';clear hS;have hS:=hS';clear hS'))|(first|(with_reducible first|apply d8|apply c9|apply d7|apply d5|apply g8|apply e7))|(((with_reducible apply k6);exact rfl;all_goals (intro hb hp;try (exfalso;omega))))|((with_reducible apply e8);exact rfl;exact rfl;exact a9Q (hfx.now hS) (by omega);exact rfl;rintro _ w' ⟨qX,cX,rfl,hS'⟩;replace hS:=hS.transA hS';simp only [k7] at hS;clear hS'))
  have hsr:(a5C N).length=N.length:=by unfold a5C;rw [List.length_map]
  repeat' (first|(first|((with_reducible apply m0);exact rfl;exact rfl;omega;omega;exact rfl)|((with_reducible apply d6 c8);exact rfl;exact rfl)|(((with_reducible apply i7 hS c8 (i:=4));(iterate 8 exact rfl);((exact (rfl:_=[_,_,_,_,_])));intro w' hS';simp only [List.set] at hS';clear hS;have hS:=hS';clear hS')))|(first|(with_reducible first|apply c9|apply d7|apply d5|apply k8))|((with_reducible apply a26 hS c8 (i:=3));(iterate 4 exact rfl);exact hS.rowRo 0 rfl;exact rfl;((omega));exact rfl;intro p' cap' w' hS';simp only [List.set] at hS';clear hS;have hS:=hS';clear hS'))
  rw [hsr] at hS ⊢
  replace hS:=St.reorderT 9 [3,4,5,6,7,8,1] hS (by decide) rfl
  simp only [k7,List.drop_succ_cons,List.drop_zero] at hS
  have hyS:fxA (S,.slice qX S.fixes.length cX)=.row 100 2 (.slice qX S.fixes.length cX) (S.fixes.map fxC):=rfl
  rw [← hyS] at hS
  refine m6 (p',cap',N++[(S,.slice qX S.fixes.length cX)]) ?_ ?_ ?_ ?_
  ·dsimp only
   rw [List.length_append,List.length_singleton]
   repeat (first|exact Fr.sub_nil _|(apply Fr.sub_cons;exact rfl))
  ·dsimp only
   refine ⟨by rw [List.length_append,List.length_singleton];omega,?_⟩
   rw [List.length_append,List.length_singleton,a0S (a5Z hx),← hNs]
   unfold shs
   rw [List.map_append]
   rfl
  ·dsimp only
   unfold a5C at hS ⊢
   rw [List.length_append,List.length_singleton,List.map_append,List.map_append,List.append_nil]
   refine hS.perm ?_
   repeat (apply List.Perm.cons)
   exact (List.perm_append_singleton _ _).symm
  ·dsimp only
   rw [List.length_append,List.length_singleton]
   omega
 have hNn:N.length=sh.length:=by omega
 replace hS:=(hS.addNil 41 3).reorderT 3 [2,0,1] (by decide) rfl
 simp only [k7,List.drop_succ_cons,List.drop_zero] at hS
 have hsl4:=k4
 repeat' (first|(first|((with_reducible apply d6 c8);exact rfl;exact rfl)|((with_reducible apply d9);exact rfl;(((with_reducible apply Loads.sl c8);exact rfl;((exact hS.blkC 6 rfl rfl))));exact rfl))|(first|(with_reducible first|apply d8|apply c9|apply d7|apply d5|apply e7|apply n5|apply j4|apply i9))|(((with_reducible apply k6);exact rfl;all_goals (intro hb hp;try (exfalso;omega)))))
 refine o6 (X:=Option Addr×Nat×List Sp) (fun x=>[(38,.int .i64 (x.2.2.length:Nat))]) [1,2,3,36,37] rfl (fun x=>[.blk g3 [.slice qH N.length cH,.slice qF fr.length cF,.slice qS sl.length cS,.slice x.1 x.2.2.length x.2.1,.int .i64 hand],.row 41 3 (.slice x.1 x.2.2.length x.2.1) (x.2.2.map spC),.row 97 3 (.slice qH N.length cH) (a5C N),.row 43 4 (.slice qF fr.length cF) (fr.map fmC),.row 45 2 (.slice qS sl.length cS) (sl.map swC),.blk g2 [.slice none 0 0,.slice none 0 0,.slice none 0 0,.slice none 0 0,.int .i64 0],.blk g1 [.slice p1 sh.length c1,.slice p2 fr.length c2,.slice p3 sl.length c3,.slice p4 sp.length c4,.int .i64 hand]]++(N.map fxA++spA x.2.2)) (Γ:=[]) (fun x=>x.2.2.length≤sp.length∧x.2.2.map (·.s)=(sp.map (·.s)).take x.2.2.length) (fun x=>sp.length - x.2.2.length) (none,0,[]) (by repeat (first|exact Fr.sub_nil _|(apply Fr.sub_cons;exact rfl))) ⟨Nat.zero_le _,rfl⟩ (by show St nF w w1 ((_++(N.map fxA++[]))++[]);rw [List.append_nil,List.append_nil];exact hS) ?_
 clear hS
 rintro ⟨qP,cP,M⟩ w1 ⟨hM,hMs⟩ hS
 dsimp only [List.cons_append,List.nil_append] at hM hMs hS ⊢
 rw [List.append_nil] at hS
 by_cases hlt2:M.length < sp.length
 rotate_left
 ·have hMn:M.length=sp.length:=by omega
  repeat' (first|(first|((with_reducible apply d6 c8);exact rfl;exact rfl)|((with_reducible apply d9);exact rfl;(((with_reducible apply Loads.st c8);exact rfl;((exact hS.blkR 0 rfl));exact rfl));exact rfl))|(first|(with_reducible first|apply d8|apply c9|apply d7|apply d5|apply n5|apply j5|apply j4|apply i9))|(((with_reducible apply k6);exact rfl;all_goals (intro hb hp;try (exfalso;omega))))|((with_reducible apply i7 hS c8 (i:=5));(iterate 8 exact rfl);((exact (rfl:_=[_,_,_,_,_])));intro w' hS';simp only [List.set] at hS';clear hS;have hS:=hS';clear hS'))
  (apply j6);(repeat (first|exact ResL.nil|(apply ResL.cell;exact rfl;(((with_reducible apply Loads.st c8);exact rfl;((exact hS.blkR 5 rfl));exact rfl)))))
  rw [hNn] at hNs hS ⊢
  rw [hMn] at hMs hS ⊢
  rw [List.take_of_length_le (by rw [a2J];omega)] at hNs
  rw [List.take_of_length_le (by rw [List.length_map];omega)] at hMs
  refine ⟨⟨N,fr,sl,M,hand,.slice qH sh.length cH,.slice qF fr.length cF,.slice qS sl.length cS,.slice qP sp.length cP⟩,rfl,?_,?_⟩
  ·unfold KV.K
   dsimp only
   rw [hNs,hMs]
  ·unfold kA
   dsimp only
   replace hS:=hS.reorderT 7 [2,3,4,1] (by decide) rfl
   simp only [k7,List.drop_succ_cons,List.drop_zero] at hS
   exact hS
 obtain ⟨x,hx⟩:=l8 (l:=sp) (i:=M.length) (by omega)
 have hxs:(sp.map (·.s))[M.length]?=some x.s:=j9 (f:=fun p:Sp=>p.s) hx
 have hrow:=j9 (f:=spC) hx
 obtain ⟨b,off,rfl,hro⟩:=hsl4.at_ (i:=M.length) hlt2
 have hxv:=k5 x (List.mem_of_getElem? hx)
 have hxa:=b6 x (List.mem_of_getElem? hx)
 have hxe:=b7 x (List.mem_of_getElem? hx)
 have har:=hxv.ar
 have hen:=hxv.en
 obtain ⟨s,va,ve⟩:=x
 dsimp only at har hen hxa hxe hxs
 obtain ⟨pa,ca,rfl⟩:=har.len
 obtain ⟨pe,ce,rfl⟩:=hen.len
 unfold spC at hrow
 dsimp only at hrow
 repeat' (first|(first|((with_reducible apply d6 c8);exact rfl;exact rfl)|((with_reducible apply d9);exact rfl;(((with_reducible apply Loads.st c8);exact rfl;((exact hS.roR (by assumption) (by assumption)));exact rfl));exact rfl)|((with_reducible apply p8 c8);(iterate 3 exact rfl);((exact rfl));((omega));exact rfl)|((with_reducible apply j7 hS c8);(iterate 3 exact rfl);intro g w' hS';clear hS;have hS:=hS';clear hS')|(((with_reducible apply i7 hS c8 (i:=0));(iterate 8 exact rfl);((exact (rfl:_=[_,_,_])));intro w' hS';simp only [List.set] at hS';clear hS;have hS:=hS';clear hS')))|(first|(with_reducible first|apply d8|apply c9|apply d7|apply d5|apply g8|apply e7))|(((with_reducible apply k6);exact rfl;all_goals (intro hb hp;try (exfalso;omega)))))
 refine a2D 2 14 15 rfl hS (by kernel_rfl) ?_
 intro w10 hS'
 clear hS;have hS:=hS';clear hS'
 simp only [List.take_succ_cons,List.take_zero]
 have hH:=hS.sub (List.sublist_append_left [_,_] _)
 ((with_reducible apply l4 0 c8);exact rfl;kernel_rfl;kernel_rfl;kernel_rfl;exact rfl;exact (fun _ _ _ h=>h);exact Or.inr hH;exact rfl;exact rfl)
 ((with_reducible apply r7 1);exact rfl;kernel_rfl;kernel_rfl;kernel_rfl;kernel_rfl;exact rfl;exact rfl;exact (fun _ _ _ h=>h);exact hH;exact rfl;(intro w2 hw2;(replace hw2:St _ _ w2 _:=hw2;(((with_reducible apply Loads.sl c8);exact rfl;((exact hw2.blkC 1 rfl rfl))))));exact rfl)
 ((with_reducible apply l4 2 c8);exact rfl;kernel_rfl;kernel_rfl;kernel_rfl;exact rfl;exact (fun _ _ _ h=>h);exact Or.inr hH;exact rfl;exact rfl)
 ((with_reducible apply r7 3);exact rfl;kernel_rfl;kernel_rfl;kernel_rfl;kernel_rfl;exact rfl;exact rfl;exact (fun _ _ _ h=>h);exact hH;exact rfl;(intro w2 hw2;(replace hw2:St _ _ w2 _:=hw2;(((with_reducible apply Loads.sc c8);exact rfl;((exact hw2.blkC 0 rfl rfl))))));exact rfl)
 ((with_reducible apply l4 4 c8);exact rfl;kernel_rfl;kernel_rfl;kernel_rfl;exact rfl;exact (fun _ _ _ h=>h);exact Or.inr hH;exact rfl;exact rfl)
 ((with_reducible apply r7 5);exact rfl;kernel_rfl;kernel_rfl;kernel_rfl;kernel_rfl;exact rfl;exact rfl;exact (fun _ _ _ h=>h);exact hH;exact rfl;(intro w2 hw2;(replace hw2:St _ _ w2 _:=hw2;(((with_reducible apply Loads.sl c8);exact rfl;((exact hw2.blkC 0 rfl rfl))))));exact rfl)
 ((with_reducible apply l4 7 c8);exact rfl;kernel_rfl;kernel_rfl;kernel_rfl;exact rfl;exact (fun _ _ _ h=>h);exact Or.inr hH;exact rfl;exact rfl)
 ((with_reducible apply r7 8);exact rfl;kernel_rfl;kernel_rfl;kernel_rfl;kernel_rfl;exact rfl;exact rfl;exact (fun _ _ _ h=>h);exact hH;exact rfl;(intro w2 hw2;(replace hw2:St _ _ w2 _:=hw2;(((with_reducible apply Loads.sl c8);exact rfl;((exact hw2.blkC 0 rfl rfl))))));exact rfl)
 refine s7 (i:=6) (by kernel_rfl) ?_
 refine t5 rfl (a0o (first:=[]) (caps:=[]) rfl rfl (a9R (har.now hS) (by omega))) rfl ?_
 rintro _ w' ⟨qA,cA,rfl,hS'⟩
 replace hS:=hS.transA hS';simp only [k7] at hS;clear hS'
 have hH:=hS.drop.sub (List.sublist_append_left [_,_] _)
 refine ⟨Or.inr (Or.inr hH),?_⟩
 refine s7 (i:=9) (by kernel_rfl) ?_
 refine t5 rfl (a0o (first:=[]) (caps:=[]) rfl rfl (a8Y (hen.now hS) (by omega))) rfl ?_
 rintro _ w' ⟨qE,cE,rfl,hS'⟩
 replace hS:=hS.transA hS';simp only [k7] at hS;clear hS'
 have hH:=hS.drop.drop.sub (List.sublist_append_left [_,_] _)
 refine ⟨Or.inr (Or.inr hH),?_⟩
 ((with_reducible apply a7l 10 c8);exact rfl;kernel_rfl;kernel_rfl;kernel_rfl;exact rfl;exact (fun _ _ _ _ h=>h);exact Or.inr hH;exact rfl;exact rfl;((exact (rfl:_=some [_,_,_])));exact rfl)
 refine s7 (i:=11) (by kernel_rfl) ?_
 refine t5 rfl (y8 hS c8 rfl rfl rfl rfl rfl rfl) rfl ?_
 rintro _ w' ⟨g9,rfl,hS'⟩
 clear hS;have hS:=hS';clear hS'
 have hH:=hS.drop.drop.drop.sub (List.sublist_append_left [_,_] _)
 refine ⟨Or.inr (Or.inr hH),?_⟩
 refine s7 (i:=12) (by kernel_rfl) ?_
 refine t5 rfl (a0z hS c8 (i:=5) rfl rfl rfl rfl (hS.rowRo 0 rfl) rfl (by simp only [List.length_map];omega)) rfl ?_
 rintro _ w' ⟨p',c',rfl,hS'⟩
 simp only [List.set,List.length_map] at hS' ⊢
 clear hS;have hS:=hS';clear hS'
 have hH:=hS.drop.drop.drop.sub (List.sublist_append_left [_,_] _)
 refine ⟨Or.inr (Or.inr hH),?_⟩
 ((with_reducible apply l4 13 c8);exact rfl;kernel_rfl;kernel_rfl;kernel_rfl;exact rfl;exact (fun _ _ _ h=>h);exact Or.inr hH;exact rfl;exact rfl)
 refine s7 (i:=14) (by kernel_rfl) ?_
 refine a0L (Φ:=fun _ w'=>St _ _ w' _) rfl (o8 hS c8 (i:=4) rfl rfl rfl rfl rfl (Nat.le_of_ble_eq_true rfl) (by intro u hu;simp [Value.cells] at hu;subst hu;rfl)) ?_
 intro _ w' hS'
 simp only [List.set,t8] at hS'
 clear hS;have hS:=hS';clear hS'
 refine ⟨Or.inl rfl,?_⟩
 refine a1a (by kernel_rfl) ?_
 repeat' (first|(first|((with_reducible apply m0);exact rfl;exact rfl;omega;omega;exact rfl)|((with_reducible apply d6 c8);exact rfl;exact rfl))|(first|(with_reducible first|apply c9|apply d7|apply d5|apply k8)))
 refine m6 (p',c',M++[⟨s,.slice qA s.areas.length cA,.slice qE s.entries.length cE⟩]) ?_ ?_ ?_ ?_
 ·dsimp only
  rw [List.length_append,List.length_singleton]
  repeat (first|exact Fr.sub_nil _|(apply Fr.sub_cons;exact rfl))
 ·dsimp only
  refine ⟨by rw [List.length_append,List.length_singleton];omega,?_⟩
  rw [List.length_append,List.length_singleton,a0S hxs,← hMs,List.map_append]
  rfl
 ·replace hS:=hS.reorderT 11 [4,5,6,7,8,9,10,2,1] (by decide) rfl
  simp only [k7,List.drop_succ_cons,List.drop_zero] at hS
  dsimp only
  rw [List.length_append,List.length_singleton,List.map_append,List.append_nil,b10]
  refine hS.perm ?_
  repeat (apply List.Perm.cons)
  rw [← List.append_assoc]
  exact List.perm_append_comm (l₁:=[_,_])
 ·dsimp only
  rw [List.length_append,List.length_singleton]
  omega
end Go.Proofs.Ytejnpppejalhfac
