/- Part 07. -/
import Derived.Test.YtdnipikdddfhfaaGreatDoorWd06
set_option linter.unusedVariables false
set_option maxHeartbeats 16000000
namespace Go.Proofs.YtdnipikdddfhfaaGreatDoor
open Lib (hid)
section
open Go.RowKit Go.Sort
def zcc (s:Iv):List Value:=[.int .u64 ((s.1:Nat):Int),.int .u64 ((s.2:Nat):Int)]
def cfI (x y:Iv):Int:=Lib.compareInt (x.1:Int) (y.1:Int)
theorem ltI (x y:Iv):ltOf cfI x y=decide (x.1<y.1):=by
 unfold ltOf cfI Lib.compareInt;by_cases h1:x.1<y.1
 · simp[h1]
 · by_cases h2:y.1<x.1
   · simp[h1,h2]
   · simp[h1,h2]
theorem zm0:SWO (ltOf cfI) where
 irrefl x:=by rw[ltI];simp
 trans x y z h1 h2:=by rw[ltI] at *;simp at *;omega
 ntrans x y z h1 h2:=by rw[ltI] at *;simp at *;omega
theorem zvh {d d':Array Iv} (h:PermIn 0 d.size d d'):d'.toList.Perm d.toList:=by
 obtain⟨h1,_,h3⟩:=h;rw[Array.extract_eq_self_of_le (by omega),Array.extract_eq_self_of_le (by omega)] at h3;exact h3
theorem zvi {d:Array Iv} {d':Array Iv} (hs:d'.size=d.size) (h:SortedIn (ltOf cfI) 0 d.size d'):zds d'.toList:=by
 intro i j hij hj;have hj':j<d'.size:=by simpa using hj
 have:=h i j (Nat.zero_le _) hij (by omega);rw[ltI] at this;have e1:za d'.toList i=d'[i]! :=by rw[yw (by simp;omega)];simp[getElem!_pos d' i (by omega)]
 have e2:za d'.toList j=d'[j]! :=by rw[yw hj];simp[getElem!_pos d' j hj']
 rw[e1,e2];simp at this;omega
theorem zm1 {w:World} {base n cap g:Nat} {T:TypeId} {l:List Iv} (h:w.ownsRow base T 2 (.slice (some ⟨g,0,none⟩) n cap) n (ivC l)):HoldsK zcc 2 w g 0 l.toArray:=by
 have hlen:l.length=n:=by have:=h.1;rw[zfj] at this;omega
 intro j hj;rw[size_flatK] at hj;have hj':j<l.length*2:=by simpa using hj
 have hi:j / 2<l.length:=by omega
 refine⟨?_,by rw[Nat.zero_add];exact h.frozenAt j⟩;rw[Nat.zero_add,h.cellAt j (by omega)];obtain⟨e1,e2⟩:=zen l (j / 2) hi;rw[get_flatK _ _ _ _ (by simpa using hj')];have e:l.toArray[j / 2]! =za l (j / 2):=by rw[yw hi];simp[hi]
 rw[e];rcases Nat.mod_two_eq_zero_or_one j with hm | hm
 · rw[show j / 2*2=j by omega] at e1;rw[e1,hm];rfl
 · rw[show j / 2*2+1=j by omega] at e2;rw[e2,hm];rfl
theorem zvj {w:World} {base g n:Nat} (d':Array Iv) (os:Array Obj) (hg:base≤g) (hw:base≤w.heap.size):Below base w (sortWorldK zcc 2 w g 0 n d' os):=by
 refine⟨rfl,rfl,rfl,?_,?_⟩
 · simp[sortWorldK,grow,putRowK,putRow,mapBlock]
 · intro k hk;simp only[sortWorldK,grow,putRowK,putRow,mapBlock,heap_ahead];rw[Array.getElem?_append_left (by simp;omega),Array.getElem?_modify,if_neg (by omega)]
theorem zvk {w:World} {g n m:Nat} {d d':Array Iv} (os:Array Obj) (hH:HoldsK zcc 2 w g 0 d) (hs:d'.size=d.size) (hg:g<w.heap.size) (hlt:∀s∈d'.toList,s.1<18446744073709551616∧s.2<18446744073709551616) (hn:d.size=n) (hm:n≤9223372036854775807):
 Ivs (sortWorldK zcc 2 w g 0 m d' os) (some ⟨g,0,none⟩) n n d'.toList:=by
 have h:=holdsK_sortWorldK_c zcc 2 w g 0 d d' m os hH hg hs;refine⟨by simp[hs,hn],hlt,Nat.le_refl _,hm,(by intro h;cases h),fun _=>⟨g,0,rfl,fun i hi=>?_⟩⟩;have hi':i<d'.size:=by omega
 have e:za d'.toList i=d'[i]! :=by rw[yw (by simpa using hi')];simp[getElem!_pos d' i hi']
 have c0:=(h.cell (i:=i) (c:=0) hi' (by omega)).1;have c1:=(h.cell (i:=i) (c:=1) hi' (by omega)).1;rw[e];exact⟨c0,c1⟩
end
section
open Go.RowKit
def qo (l:List Nat):List Value:=l.map fun x=>Value.int .i64 ((x:Nat):Int)
theorem zgw (a b:List Nat):qo (a++b)=qo a++qo b:=by simp[qo]
theorem zm2 (a:List Nat):(qo a).length=a.length:=by simp[qo]
theorem zgx (l:List Nat) (i:Nat) (h:i<l.length):(qo l)[i]?=some (.int .i64 ((nth l i:Nat):Int)):=by simp[qo,nth,h]
theorem zvl (l:List Nat):∀u∈qo l,u.oneCell'=true:=by
 intro u hu;simp only[qo,List.mem_map] at hu;obtain⟨x,_,rfl⟩:=hu
 rfl
structure I64s (w:World) (a:Option Addr) (n cap:Nat) (l:List Nat):Prop where
 len:l.length=n
 room:n≤cap
 most:cap≤9223372036854775807
 nilc:a=none→cap=0
 cells:0<n→∃b o,a=some ⟨b,o,none⟩∧∀i,i<n→w.cell? ⟨b,o+i,none⟩=some (.int .i64 ((nth l i:Nat):Int))
theorem I64s.below {w w':World} {a:Option Addr} {n cap:Nat} {l:List Nat} (h:I64s w a n cap l) (hb:Below w.heap.size w w'):I64s w' a n cap l:=by
 refine⟨h.len,h.room,h.most,h.nilc,fun hn=>?_⟩;obtain⟨b,o,ha,hc⟩:=h.cells hn;refine⟨b,o,ha,fun i hi=>?_⟩;have:=hc i hi;exact(hb.cell (p:=⟨b,o+i,none⟩) (zh this)).trans this
theorem Tryz.info_int:(Tryz.prog.info? 3).map (fun i=>(i.zero,i.size,i.bytes))=some (some (.int .i64 0),1,8):=by kernel_rfl
theorem zvm {w:World} (base:Nat) (v:Value) (n:Nat) (xs:List Nat) (hown:w.ownsRow base 3 1 v n (qo xs)) (A:Option Addr) (m c:Nat) (l:List Nat) (hr:Rd w 1 A m (qo l)) (hb:n+m≤1000000) (hbase:base≤w.heap.size):
 ∃v' w',(Builtin.append_ #[60,60] 60 #[v,.slice A m c]).run Tryz.prog w=.ok v' w'∧w'.ownsRow base 3 1 v' (n+m) (qo (xs++l))∧w.grownBy w' v.ownBlock:=by
 rw[zgw];exact zbi base _ _ _ _ 1 8 Tryz.underlying60 Tryz.info_int rfl (by omega) v n _ hown A m c _ hr (zvl l) (by unfold maxLen;omega) (by omega) hbase
theorem zvn {w:World} {ops:Array Oper} {rest:List Oper} {o:Oper} {a:Act} {Q:Exit→Act→World→Prop} (hgd:o.guard=none) (s x:Operand)
 (ho:o.op=.call { callee:=.builtin .append,args:= #[s,x],argTypes:= #[60,60] }) (hty:o.type=60)
 (base:Nat) (v:Value) (n:Nat) (xs:List Nat) (hs:a.eval s=v) (hown:w.ownsRow base 3 1 v n (qo xs)) (A:Option Addr) (m c:Nat) (l:List Nat) (hx:a.eval x=.slice A m c) (hr:Rd w 1 A m (qo l)) (hb:n+m≤1000000) (hbase:base≤w.heap.size)
 (h:∀v' w',w'.ownsRow base 3 1 v' (n+m) (qo (xs++l))→w.grownBy w' v.ownBlock→wpList Tryz.prog ops Q rest (a.put o.dst v') w'):wpList Tryz.prog ops Q (o :: rest) a w:=by
 obtain⟨v',w',hrun,h1,h2⟩:=zvm base v n xs hown A m c l hr hb hbase;exact jh _ _ _ ho (by simp[Region.wanted,hgd]) _ _ hs hx v' w' (by rw[hty];exact hrun) (h v' w' h1 h2)
def zdw (base:Nat) (v:Value) (n i:Nat) (cs ys:List Value) (w:World) (e:Ending) (w':World):Prop:=
 ∃v',e=.returned v'∧w'.ownsRow base 43 1 v' (n+1) (cs.take (i)++(ys++cs.drop (i)))∧w.grownBy w' v.ownBlock
theorem zvo {w:World} {ty:TypeId} {a b:Option Addr} {n c m d:Nat}:(Builtin.append_ #[41,41] ty #[.slice a n c,.slice b m d]).run Tryz.prog w=(Builtin.append_ #[41,41] ty #[.slice a n c,.slice b m d]).run Tryz.prog w:=by
 have h1:=Tryz.underlying41;have h2:=Tryz.underlying41
 rfl
set_option maxRecDepth 100000 in
theorem zvp (base:Nat) (v:Value) (n vb:Nat) (cs ys:List Value) (w:World) (ho:w.ownsRow base 43 1 v n cs) (hv:w.heap[vb]?=some (.cells ys.toArray 43 (0,0))) (hy:ys.length=1)
 (h1:∀u∈ys,u.oneCell'=true) (hn:n+1≤1000000) (hb:base≤w.heap.size):
 Calls Tryz.prog 288 #[v,.int .i64 n,.slice (some ⟨vb,0,none⟩) 1 1] w fun e w'=>zdw base v n n cs ys w e w':=by
 have hr:Rd w 1 (some ⟨vb,0,none⟩) 1 ys:=⟨by omega,fun _=>⟨vb,0,rfl,fun j u hu=>by rw[Nat.zero_add];exact zcb hv (by simpa using hu)⟩⟩;have hrun:=fun ty=>zbi base 41 ty _ _ 1 8 Tryz.underlying41 Tryz.info_u64 rfl (by omega) v n cs ho (some ⟨vb,0,none⟩) 1 1 ys hr h1 (by unfold maxLen;omega) (by omega) hb
 obtain⟨v',w',hrun1,h2,h3⟩:=hrun 41;have hlen:=ho.1;have HR:=hid (show zdw base v n n cs ys w (.returned v') w' from⟨v',rfl,by rw[List.take_of_length_le (by omega),List.drop_eq_nil_of_le (by omega),List.append_nil];exact h2,h3⟩)
 obtain⟨a,c,rfl⟩:∃a c,v=.slice a n c:=by
  rcases ho.2 with ⟨rfl,rfl⟩ | ⟨g,cap,cur,rfl,_⟩
  · exact⟨none,0,rfl⟩
  · exact⟨_,cap,rfl⟩
 have hrun2:(Builtin.append_ #[41,41] 41 #[.slice a n c,.slice (some ⟨vb,0,none⟩) 1 1]).run Tryz.prog w=.ok v' w':=by rw[zvo];exact hrun1
 have hnc:n≤c∧c≤9223372036854775807∧(a=none∨∃g,a=some ⟨g,0,none⟩):=by
  rcases ho.2 with ⟨h,rfl⟩ | ⟨g,cap,cur,h,_,_,h4,h5,_⟩
  · cases h;exact⟨Nat.le_refl _,by omega,.inl rfl⟩
  · cases h;unfold maxLen at h5;exact⟨h4,by omega,.inr ⟨g,rfl⟩⟩
 obtain⟨hnc,hc63,ha⟩:=hnc;clear hrun hrun1 h2 h3 ho hv hy h1 hr hlen;rcases ha with rfl | ⟨g,rfl⟩
 · go_enter Tryz.func288,Tryz.ntmps288;go_wp2_with (at_builtin;refine Lib.wpList_append_run _ rfl _ _ _ _ rfl _ _ rfl rfl _ _ hrun2 ?_);go_ret;exact HR.out
 · go_enter Tryz.func288,Tryz.ntmps288;go_wp2_with (at_builtin;refine Lib.wpList_append_run _ rfl _ _ _ _ rfl _ _ rfl rfl _ _ hrun2 ?_);all_goals (go_ret;exact HR.out)
theorem zm3 {w:World} {base n c g:Nat} {cs:List Value} (ho:w.ownsRow base 43 1 (.slice (some ⟨g,0,none⟩) n c) n cs):
 ∃L:List Value,w.heap[g]?=some (.cells L.toArray 43 (0,0))∧L.length=c*1∧L.take (n*1)=cs∧n≤c∧c≤maxLen∧base≤g∧g<w.heap.size:=by
 rcases ho.2 with ⟨h,_⟩ | ⟨g',cap,cur,h,h1,h2,h3,h4,h5,h6⟩
 · cases h
 · cases h;exact⟨cur.toList,by simpa using h2,by simpa using h5,h6,h3,h4,h1,(Array.getElem?_eq_some_iff.1 h2).1⟩
set_option maxRecDepth 100000 in
theorem zvq (base g n c i vb:Nat) (cs ys:List Value) (w:World) (ho:w.ownsRow base 43 1 (.slice (some ⟨g,0,none⟩) n c) n cs) (hv:w.heap[vb]?=some (.cells ys.toArray 43 (0,0))) (hne:vb≠g) (hy:ys.length=1)
 (h1c:∀u∈cs,u.oneCell'=true) (h1:∀u∈ys,u.oneCell'=true) (hi:i<n) (hc:n+1≤c):
 Calls Tryz.prog 288 #[.slice (some ⟨g,0,none⟩) n c,.int .i64 i,.slice (some ⟨vb,0,none⟩) 1 1] w fun e w'=>zdw base (.slice (some ⟨g,0,none⟩) n c) n i cs ys w e w':=by
 obtain⟨L,hg,hL,hcs,-,hcm,hbg,hgw⟩:=zm3 ho;have hc63:c≤9223372036854775807:=by unfold maxLen at hcm;omega
 have hcl:=ho.1
 have hsz:(Tryz.prog.info? 43).map (·.size)=some 1:=by
  have h:=Tryz.info_u64
  cases hq:Tryz.prog.info? 43 with
  | none=>rw[hq] at h;cases h
  | some k=>rw[hq] at h;simp at h;simp[h]
 have hov:∀off lb cb,(callFunc 296 #[.slice (some ⟨vb,0,none⟩) 1 1,.slice (some ⟨g,off,none⟩) lb cb]).run Tryz.prog w=.ok (.value (.bool false)) w:=fun off lb cb=>by
  rw[run_callFunc_extern Tryz.func296 (by kernel_rfl) (by kernel_rfl) (by kernel_rfl) (e:=Extern.SlicesOverlaps.overlaps #[41,41] #[4]) (by kernel_rfl),
   Lib.run_overlaps_apart w 41 4 43 Tryz.underlying41 1 (zme hsz) ⟨vb,0,none⟩ ⟨g,off,none⟩ 1 1 lb cb hne 43 43 ys.length L.length (by simp[World.shape?,hv]) (by simp[World.shape?,hg]) (by omega) (by simp[World.frozen?,hv]) (by simp[World.frozen?,hv])]
  rfl
 obtain⟨A,hA⟩:∃A,A=splice L ((i+1)) (cs.drop (i)):=⟨_,rfl⟩;have hAl:A.length=c*1:=by rw[hA,length_splice _ _ _ (by rw[List.length_drop];omega),hL]
 have hcp1:∀ty,(Builtin.copy_ #[41,41] ty #[.slice (some ⟨g,(i+1),none⟩) (n+1 - (i+1)) (c - (i+1)),.slice (some ⟨g,i,none⟩) (n+1 - i) (c - i)]).run Tryz.prog w.drew=.ok (goInt ((n - i:Nat):Int)) (w.drew.setRow g A.toArray):=fun ty=>by
  rw[hA];refine zc3 w.drew _ _ ty 43 1 g _ _ _ _ _ _ L 43 (cs.drop (i)) (n - i) Tryz.underlying41 hsz hg (by simp only[Nat.min_def];split <;> omega) (by rw[List.length_drop];omega) (fun j u hj=>?_) (by rw[List.length_drop];omega) (fun u hu=>h1c u (List.mem_of_mem_drop hu));rw[List.getElem?_drop] at hj;show w.cell? _=_;rw[yk];refine zcb hg ?_;rw[←hcs] at hj;rw[List.getElem?_take] at hj;split at hj
  · simpa using hj
  · exact absurd hj (by simp)
 obtain⟨W1,hW1⟩:∃W1,W1=w.drew.setRow g A.toArray:=⟨_,rfl⟩;have hg1:W1.heap[g]?=some (.cells A.toArray 43 (0,0)):=by rw[hW1];exact setRow_heap w.drew g _ _ _ _ hg
 have hv1:W1.heap[vb]?=some (.cells ys.toArray 43 (0,0)):=by rw[hW1];exact(setRow_other w.drew g vb _ hne).trans hv
 have hcp2:∀ty,(Builtin.copy_ #[41,41] ty #[.slice (some ⟨g,i,none⟩) (n+1 - i) (c - i),.slice (some ⟨vb,0,none⟩) 1 1]).run Tryz.prog W1=.ok (goInt ((1:Nat):Int)) (W1.setRow g (splice A (i) ys).toArray):=fun ty=>
  zc3 W1 _ _ ty 43 1 g _ _ _ _ _ _ A 43 ys 1 Tryz.underlying41 hsz hg1 (by simp only[Nat.min_def];split <;> omega) (by omega) (fun j u hj=>by rw[yk,Nat.zero_add];exact zcb hv1 (by simpa using hj)) (by omega) h1
 have hE:zdw base (.slice (some ⟨g,0,none⟩) n c) n i cs ys w (.returned (.slice (some ⟨g,0,none⟩) (n+1) c)) (W1.setRow g (splice A (i) ys).toArray):=by
  refine⟨_,rfl,⟨by simp;omega,.inr ⟨g,c,_,rfl,hbg,setRow_heap W1 g _ _ _ _ hg1,hc,hcm,by rw[List.size_toArray,length_splice _ _ _ (show i+ys.length≤A.length by omega),hAl],?_⟩⟩,?_⟩
  · have h:=zmf L ys (i) (n*1) 1 (by omega) hy (by omega);rw[hcs] at h;rw[hA,show (i+1)=i+1 by omega,show (n+1)*1=n*1+1 by omega];simpa using h
  · refine⟨by rw[hW1];rfl,by rw[hW1];rfl,by rw[hW1];rfl,by rw[hW1];simp[World.setRow],fun k hk hkr=>?_⟩;have hkg:k≠g:=fun e=>hkr (by rw[e];rfl)
    rw[setRow_other W1 g k _ hkg,hW1];exact setRow_other w.drew g k _ hkg
 have HE:=hid hE;rw[←hW1] at hcp1;have HW1:=hid hW1;clear hE hW1 hg1 hv1 hA hAl ho hg hL hcs hcl hv hy h1c h1;have hz2:¬((i:Int)=(n:Int)):=by omega
 have hw1:IntKind.i64.wrap ((i:Int)+1)=(i:Int)+1:=by rw[IntKind.wrap_i64];omega
 have hin:i≤n:=by omega
 have hb2:¬(c=i+1):=by omega
 have hb4:¬(c=i):=by omega
 have hb1:(0:Int)≤(i:Int)+1:=by omega
 have hb3:(i:Int)≤(n:Int)+1:=by omega
 have htn:((i:Int)+1).toNat=i+1:=by omega
 go_enter Tryz.func288,Tryz.ntmps288;go_wp2_with (simp only[hov]);go_region_law (refine zgr rfl _ _ 41 41 rfl (.slice (some ⟨g,(i+1),none⟩) (n+1 - (i+1)) (c - (i+1))) (.slice (some ⟨g,i,none⟩) (n+1 - i) (c - i)) (by simp[Act.eval,Act.put] <;> omega) (by simp[Act.eval,Act.put] <;> omega) (hcp1 _) ?_)
 go_wp2_with (at_builtin;refine zgq rfl _ _ 41 41 rfl (.slice (some ⟨g,i,none⟩) (n+1 - i) (c - i)) (.slice (some ⟨vb,0,none⟩) 1 1) (by simp[Act.eval,Act.put] <;> omega) (by simp[Act.eval,Act.put]) (hcp2 _) ?_);go_ret;exact HE.out
set_option maxRecDepth 100000 in
theorem zvr (base g n c i vb:Nat) (cs ys:List Value) (w:World) (ho:w.ownsRow base 43 1 (.slice (some ⟨g,0,none⟩) n c) n cs) (hv:w.heap[vb]?=some (.cells ys.toArray 43 (0,0))) (hy:ys.length=1)
 (h1c:∀u∈cs,u.oneCell'=true) (h1:∀u∈ys,u.oneCell'=true) (hi:i<n) (hc:c<n+1) (hn:n+1≤1000000) (hb:base≤w.heap.size):
 Calls Tryz.prog 288 #[.slice (some ⟨g,0,none⟩) n c,.int .i64 i,.slice (some ⟨vb,0,none⟩) 1 1] w fun e w'=>zdw base (.slice (some ⟨g,0,none⟩) n c) n i cs ys w e w':=by
 obtain⟨L,hg,hL,hcs,hnc,hcm,hbg,hgw⟩:=zm3 ho;have hc63:c≤9223372036854775807:=by unfold maxLen at hcm;omega
 have hcl:=ho.1;have hvw:vb<w.heap.size:=(Array.getElem?_eq_some_iff.1 hv).1;obtain⟨i0,hi0,hz0,hzs,hzb⟩:=info_parts Tryz.info_u64;have hsz:(Tryz.prog.info? 43).map (·.size)=some 1:=by rw[hi0];simp[hzs]
 have hcell:∀j v,cs[j]?=some v→w.cell? ⟨g,j,none⟩=some v:=fun j v hj=>by
  refine zcb hg ?_;rw[←hcs,List.getElem?_take] at hj;split at hj
  · simpa using hj
  · exact absurd hj (by simp)
 have hold:(Builtin.firstCells i0.size i (.slice (some ⟨g,0,none⟩) i c)).run Tryz.prog w.drew=.ok (cs.take (i)).toArray w.drew:=by
  rw[hzs]
  exact run_firstCells_some w.drew 1 i ⟨g,0,none⟩ i c (cs.take (i)) (by rw[List.length_take];omega) (fun j v hj=>by
   rw[yk,Nat.zero_add];rw[List.getElem?_take] at hj;split at hj
   · exact hcell j v hj
   · cases hj)
 have hik:i+(n+1 - i)=n+1:=by omega
 obtain⟨G,hG⟩:∃G,G=grownCap w (n+1) c 43:=⟨_,rfl⟩;obtain⟨Z,hZ⟩:∃Z:List Value,Z=cs.take (i)++((Builtin.zeroCells (Value.cells (.int .u64 0)) (n+1 - i)).toList++(Builtin.zeroCells (Value.cells (.int .u64 0)) (G - (n+1))).toList):=⟨_,rfl⟩
 have hrz:∀ty,(Builtin.append_ #[41,3] ty #[.slice (some ⟨g,0,none⟩) i c,.int .i64 ((n:Int)+1 - (i:Int))]).run Tryz.prog w=
  .ok (.slice (some ⟨w.heap.size,0,none⟩) (n+1) G) (w.drew.alloc (.cells Z.toArray 43)):=fun ty=>by
  have h:=Lib.run_append_grow_zeros w 41 3 ty 43 i0 _ .i64 .i64 Tryz.underlying41 Tryz.underlying3 hi0 hz0 (some ⟨g,0,none⟩) i c (cs.take (i)) hold (n+1 - i) (by omega) (by omega) (by omega) (by omega) (by rw[hzb];omega) (by rw[hzb,hik];exact growslice_fits hc (by omega));rw[hik,←hG] at h
  have hZa:(cs.take (i)).toArray++Builtin.zeroCells (Value.cells (.int .u64 0)) (n+1 - i)++Builtin.zeroCells (Value.cells (.int .u64 0)) (G - (n+1))=Z.toArray:=by
   rw[hZ];apply Array.ext';simp
  rw[hZa] at h;rw[show (n:Int)+1 - (i:Int)=((n+1 - i:Nat):Int) by omega,h]
 have hGn:n+1≤G:=by rw[hG];exact grownCap_ge w _ _ _
 have hGm:G≤maxLen:=by rw[hG];exact grownCap_le_maxLen w (n+1) c 43 (by unfold maxLen;omega)
 have hG63:G≤9223372036854775807:=by unfold maxLen at hGm;omega
 have hZl:Z.length=G*1:=by
  have hz:∀k,(Builtin.zeroCells (Value.cells (.int .u64 0)) k).toList.length=k*1:=fun k=>by rw[Array.length_toList,size_zeroCells];rfl
  rw[hZ,List.length_append,List.length_append,List.length_take,hz,hz];omega
 have hZt:Z.take (i)=cs.take (i):=by
  rw[hZ,List.take_append_of_le_length (by rw[List.length_take];omega)];exact List.take_of_length_le (by rw[List.length_take];omega)
 obtain⟨W1,hW1⟩:∃W1,W1=w.drew.alloc (.cells Z.toArray 43):=⟨_,rfl⟩;rw[←hW1] at hrz;have n1:W1.heap[w.heap.size]?=some (.cells Z.toArray 43 (0,0)):=by rw[hW1];exact heap_alloc_new w.drew _
 have o1:∀k,k<w.heap.size→W1.heap[k]?=w.heap[k]?:=fun k hk=>by rw[hW1];exact Below.heap_alloc w.drew _ k hk
 have hcpA:∀ty,(Builtin.copy_ #[41,41] ty #[.slice (some ⟨w.heap.size,i,none⟩) (n+1 - i) (G - i),.slice (some ⟨vb,0,none⟩) 1 1]).run Tryz.prog W1=.ok (goInt ((1:Nat):Int)) (W1.setRow w.heap.size (splice Z (i) ys).toArray):=fun ty=>
  zc3 W1 _ _ ty 43 1 w.heap.size _ _ _ _ _ _ Z 43 ys 1 Tryz.underlying41 hsz n1 (by simp only[Nat.min_def];split <;> omega) (by omega) (fun j u hj=>by rw[yk,Nat.zero_add];exact zcb ((o1 vb hvw).trans hv) (by simpa using hj)) (by omega) h1
 obtain⟨W2,hW2⟩:∃W2,W2=W1.setRow w.heap.size (splice Z (i) ys).toArray:=⟨_,rfl⟩;rw[←hW2] at hcpA;have n2:W2.heap[w.heap.size]?=some (.cells (splice Z (i) ys).toArray 43 (0,0)):=by rw[hW2];exact setRow_heap W1 _ _ _ _ _ n1
 have o2:∀k,k<w.heap.size→W2.heap[k]?=w.heap[k]?:=fun k hk=>by rw[hW2];exact(setRow_other W1 _ k _ (by omega)).trans (o1 k hk)
 have hl2:(splice Z (i) ys).length=G*1:=by rw[length_splice _ _ _ (by omega),hZl]
 have hcpB:∀ty,(Builtin.copy_ #[41,41] ty #[.slice (some ⟨w.heap.size,(i+1),none⟩) (n+1 - (i+1)) (G - (i+1)),.slice (some ⟨g,i,none⟩) (n - i) (c - i)]).run Tryz.prog W2.drew=.ok (goInt ((n - i:Nat):Int)) (W2.drew.setRow w.heap.size (splice (splice Z (i) ys) ((i+1)) (cs.drop (i))).toArray):=fun ty=>by
  refine zc3 W2.drew _ _ ty 43 1 w.heap.size _ _ _ _ _ _ _ 43 (cs.drop (i)) (n - i) Tryz.underlying41 hsz n2 (by simp only[Nat.min_def];split <;> omega) (by rw[List.length_drop];omega) (fun j u hj=>?_) (by rw[List.length_drop];omega) (fun u hu=>h1c u (List.mem_of_mem_drop hu));rw[List.getElem?_drop] at hj;show W2.cell? _=_;rw[yk];have h:=hcell _ u hj;simp only[World.cell?,o2 g hgw] at h ⊢;exact h
 obtain⟨C,hC⟩:∃C,C=splice (splice Z (i) ys) ((i+1)) (cs.drop (i)):=⟨_,rfl⟩;have hl3:C.length=G*1:=by rw[hC,length_splice _ _ _ (by rw[List.length_drop];omega),hl2]
 have hCt:C.take ((n+1)*1)=cs.take (i)++(ys++cs.drop (i)):=by
  have h:=zmg Z ys cs (i) (n*1) 1 (by omega) hcl hy (by omega) hZt;rw[hC,show (i+1)=i+1 by omega,show (n+1)*1=n*1+1 by omega];exact h
 rw[←hC] at hcpB
 have hE:zdw base (.slice (some ⟨g,0,none⟩) n c) n i cs ys w (.returned (.slice (some ⟨w.heap.size,0,none⟩) (n+1) G)) (W2.drew.setRow w.heap.size C.toArray):=by
  refine⟨_,rfl,⟨by simp;omega,.inr ⟨w.heap.size,G,_,rfl,hb,setRow_heap W2.drew _ _ _ _ _ n2,hGn,hGm,by rw[List.size_toArray,hl3],?_⟩⟩,?_⟩
  · simpa using hCt
  · refine⟨by rw[hW2,hW1];rfl,by rw[hW2,hW1];rfl,by rw[hW2,hW1];rfl,by rw[hW2,hW1];simp[World.setRow],fun k hk hkr=>?_⟩;rw[setRow_other W2.drew _ k _ (by omega)];exact o2 k hk
 have HE:=hid hE;obtain⟨W3,hW3⟩:∃W3,W3=W2.drew.setRow w.heap.size C.toArray:=⟨_,rfl⟩;rw[←hW3] at hcpB HE;obtain⟨N,hN⟩:∃N,N=w.heap.size:=⟨_,rfl⟩;have hgN:g≠N:=by omega
 have hvN:vb≠N:=by omega
 rw[←hN] at hcpA hcpB HE hrz;clear hE hW3 hN hC hl3 hCt hW2 n2 o2 hl2 hW1 n1 o1 hZ hZl hZt hG hold hcell hcl hcs hL hg ho hv hy h1c h1 hi0 hz0 hzs hzb hsz hb hcm hGm;have hz2:¬((i:Int)=(n:Int)):=by omega
 have hz3:(c:Int)<(n:Int)+1:=by omega
 have hGi:¬(G=i):=by omega
 have hGim:¬(G=i+1):=by omega
 have hci:¬(c=i):=by omega
 have hw1:IntKind.i64.wrap ((i:Int)+1)=(i:Int)+1:=by rw[IntKind.wrap_i64];omega
 have hb1:(0:Int)≤(i:Int)+1:=by omega
 have hin:i≤n:=by omega
 have htn:((i:Int)+1).toNat=i+1:=by omega
 have hb3:(i:Int)≤(n:Int):=by omega
 clear hik;go_enter Tryz.func288,Tryz.ntmps288
 go_wp2_with (first
  | (at_builtin;refine Lib.wpList_append_run _ rfl _ _ _ _ rfl _ _ rfl rfl _ _ (hrz _) ?_)
  | (at_builtin;refine zgq rfl _ _ 41 41 rfl (.slice (some ⟨N,i,none⟩) (n+1 - i) (G - i)) (.slice (some ⟨vb,0,none⟩) 1 1) (by simp[Act.eval,Act.put] <;> omega) (by simp[Act.eval,Act.put]) (hcpA _) ?_))
 go_region_law (refine zgr rfl _ _ 41 41 rfl (.slice (some ⟨N,(i+1),none⟩) (n+1 - (i+1)) (G - (i+1))) (.slice (some ⟨g,i,none⟩) (n - i) (c - i)) (by simp[Act.eval,Act.put] <;> omega) (by simp[Act.eval,Act.put] <;> omega) (hcpB _) ?_)
 go_wp2;go_ret;exact HE.out
theorem zvs (base:Nat) (v:Value) (n i vb:Nat) (cs ys:List Value) (w:World) (ho:w.ownsRow base 43 1 v n cs) (hv:w.heap[vb]?=some (.cells ys.toArray 43 (0,0))) (hne:v.ownBlock≠some vb) (hy:ys.length=1)
 (h1c:∀u∈cs,u.oneCell'=true) (h1:∀u∈ys,u.oneCell'=true) (hi:i≤n) (hn:n+1≤1000000) (hb:base≤w.heap.size):
 Calls Tryz.prog 288 #[v,.int .i64 i,.slice (some ⟨vb,0,none⟩) 1 1] w fun e w'=>zdw base v n i cs ys w e w':=by
 by_cases hin:i=n
 · subst hin;exact zvp base v _ vb cs ys w ho hv hy h1 hn hb
 · rcases ho.2 with ⟨rfl,rfl⟩ | ⟨g,cap,cur,rfl,_,_,h4,_⟩
   · omega
   · by_cases hc:n+1≤cap
     · exact zvq base g n cap i vb cs ys w ho hv (fun e=>hne (by rw[e];rfl)) hy h1c h1 (by omega) hc
     · exact zvr base g n cap i vb cs ys w ho hv hy h1c h1 (by omega) (by omega) hn hb
end
section
open Go.RowKit Go.Sort
theorem zvt:PlainU where
 swo:=zl3
 ins:=insertionSort_holds
 par:=partialInsertionSort_holds
 prt:=partition_holds ltU
 peq:=partitionEqual_holds ltU
 pdq:=pdq_sorts ltU
theorem zvu:CalleesU where
 ins:=fun blk off cap a b d w h1 h2 h3 h4=>zt7 blk off cap a b d w h1 h2 h3 h4
 brk:=fun blk off cap a b d w h1 h2 h3 h4 h5=>zus blk off cap a b d w h1 h2 h3 h4 h5
 piv:=fun blk off cap a b d w h1 h2 h3 h4 h5=>zuw blk off cap a b d w h1 h2 h3 h4 h5
 par:=fun blk off cap a b d w h1 h2 h3 h4=>zt8 blk off cap a b d w h1 h2 h3 h4
 peq:=fun blk off cap a b p d w h1 h2 h3 h4 h5=>zuc blk off cap a b p d w h1 h2 h3 h4 h5
 prt:=fun blk off cap a b p d w h1 h2 h3 h4 h5=>zua blk off cap a b p d w h1 h2 h3 h4 h5
set_option maxRecDepth 100000 in
theorem zvv (blk off cap:Nat) (d:Array Nat) (w:World) (hH:Holds zc w blk off d) (hblk:blk<w.heap.size) (hsz:d.size<4611686018427387904):
 Calls Tryz.prog 248 #[.slice (some ⟨blk,off,none⟩) d.size cap] w fun e w'=>e=.returned (.tuple #[])∧∃n os,w'=grow (putRow zc (Sort.ahead w n) blk off (Sort.sort ltU d)) os:=by
 have HH:RowKit.Hid (Holds zc w blk off d):=hH;clear hH
 have hLen:∀w,Calls Tryz.prog 177 #[.int .u64 (d.size:Int)] w fun e w'=>e=.returned (.int .i64 (bitsLen d.size:Nat))∧w'=w:=fun w=>by
  have h:=Tryz.bits_Len (d.size:Int) w (by omega) (by omega);rwa [Int.toNat_natCast,bitLen_eq _ (by omega)] at h
 have hk:bitsLen d.size≤62:=(bitsLen_le_iff d.size 62).2 (by omega);have hP:=fun w (h:Holds zc w blk off d) (hb:blk<w.heap.size)=>zu3 zvu zvt (d.size+1) blk off cap 0 d.size (bitsLen d.size) d w (by omega) h hb (Nat.zero_le _) (Nat.le_refl _) hsz (by omega) (Or.inl rfl)
 go_enter Tryz.func248,Tryz.ntmps248
 go_wp2_with (first
  | (go_at_call 177;refine(hLen _).mono ?_;rintro e w' ⟨rfl,rfl⟩)
  | (go_at_call 267;refine(hP _ (by exact HH.out) (by exact hblk)).mono ?_;rintro e w' ⟨rfl,n,os,rfl⟩))
 go_end0
 exact⟨rfl,n,os,rfl⟩
theorem zvw (L:List Nat):∃M:List Nat,Sort.sort ltU L.toArray=M.toArray∧M.Perm L∧M.Pairwise (· ≤·):=by
 obtain⟨⟨hs,-,hp⟩,hS⟩:=sort_sorts ltU zl3 L.toArray;refine⟨(Sort.sort ltU L.toArray).toList,by simp,?_,?_⟩
 · have h1:(Sort.sort ltU L.toArray).extract 0 L.toArray.size=Sort.sort ltU L.toArray:=by rw[←hs];simp
   rw[h1] at hp;simpa using hp
 · rw[List.pairwise_iff_getElem];intro i j hi hj hij;have h:=hS i j (Nat.zero_le _) hij (by rw[←hs];simpa using hj);rw[getElem!_pos _ j (by simpa using hj),getElem!_pos _ i (by simpa using hi)] at h;simp only[ltU,decide_eq_false_iff_not] at h;simp only[Array.getElem_toList];omega
theorem zvx {w:World} {g:Nat} {cur:Array Value} {e:TypeId} {L:List Nat} (hb:w.heap[g]?=some (.cells cur e (0,0))) (ht:cur.toList.take L.length=zo L):Holds zc w g 0 L.toArray:=by
 intro j hj;have hj':j<L.length:=by simpa using hj
 refine⟨?_,by simp[World.frozen?,hb]⟩;have h1:(cur.toList.take L.length)[j]?=(zo L)[j]?:=by rw[ht]
 rw[List.getElem?_take_of_lt hj'] at h1;simp only[World.cell?,hb,Nat.zero_add];simp only[Option.isSome_none,Bool.false_eq_true,if_false];rw[←Array.getElem?_toList,h1];simp[hj',zo]
theorem zvy {w:World} {g n:Nat} {os:Array Obj} {cur:Array Value} {e:TypeId} {fr:Nat×Nat} (d:Array Nat) (hb:w.heap[g]?=some (.cells cur e fr)):
 (grow (putRow zc (Sort.ahead w n) g 0 d) os).heap[g]?=some (.cells (putCells zc 0 d cur) e fr):=by
 have hg:g<w.heap.size:=(Array.getElem?_eq_some_iff.1 hb).1;rw[heap_grow_old _ _ (by simpa using hg)];simp[putRow,mapBlock,Sort.ahead,Array.getElem?_modify,hb,onCells]
theorem zvz (cur:Array Value) (ts:List Nat) (h:ts.length≤cur.size):(putCells zc 0 ts.toArray cur).toList.take ts.length=zo ts:=by
 apply List.ext_getElem?;intro j;by_cases hj:j<ts.length
 · rw[List.getElem?_take_of_lt hj,Array.getElem?_toList];simp[putCells,hj,show j<cur.size by omega,zo]
 · rw[List.getElem?_take_eq_none (by omega),List.getElem?_eq_none (by simp[zo];omega)]
theorem zv0 (base n:Nat) (v:Value) (L:List Nat) (w:World) (ho:w.ownsRow base 43 1 v n (zo L)) (hn:0<n) (hn2:n≤1000000):
 Calls Tryz.prog 248 #[v] w fun e w'=>e=.returned (.tuple #[])∧∃M:List Nat,M.Perm L∧M.Pairwise (· ≤·)∧w'.ownsRow base 43 1 v n (zo M)∧w.grownBy w' v.ownBlock:=by
 have hlen:L.length=n:=by have:=ho.1;rw[zep] at this;omega
 rcases ho.2 with ⟨rfl,rfl⟩ | ⟨g,cap,cur,rfl,hg,hb,h1,h2,h3,h4⟩
 · omega
 · obtain⟨M,hM,hp,hS⟩:=zvw L;have hMl:M.length=n:=by rw[hp.length_eq,hlen]
   have h:=zvv g 0 cap L.toArray w (zvx hb (by rw[hlen];simpa using h4)) ((Array.getElem?_eq_some_iff.1 hb).1) (by simp;omega);rw[show L.toArray.size=n by simpa using hlen] at h;refine h.mono ?_;rintro e w' ⟨he,m,os,hw⟩;refine⟨he,M,hp,hS,?_,?_⟩
   · rw[hw,hM];refine⟨by simp[zo,hMl],.inr ⟨g,cap,_,rfl,hg,zvy _ hb,h1,h2,by simp[putCells,h3],?_⟩⟩;have:=zvz cur M (by rw[h3];omega);rw[hMl] at this;simpa using this
   · rw[hw];refine⟨rfl,rfl,rfl,by simp,fun k hk hne=>?_⟩;rw[heap_grow_old _ _ (by simpa using hk)];have:g≠k:=fun e=>hne (by rw[e];rfl)
     simp[putRow,mapBlock,Sort.ahead,Array.getElem?_modify,this]
end
section
open Go.RowKit
def jy {α:Type} (f:Nat→Option α) (n:Nat):Option α:=(List.range n).findSome? f
theorem zcq {α:Type} {f:Nat→Option α} {n k:Nat} {x:α} (hk:k<n) (h:∀j,j<k→f j=none) (hx:f k=some x):jy f n=some x:=by
 unfold jy
 induction n with
 | zero=>omega
 | succ n ih=>
  rw[List.range_succ,List.findSome?_append];by_cases e:k=n
  · subst e
    have h0:(List.range k).findSome? f=none:=by
     rw[List.findSome?_eq_none_iff];intro j hj;exact h j (by simpa using hj)
    rw[h0];simp[hx]
  · rw[ih (by omega)]
    rfl
theorem zcr {α:Type} {f:Nat→Option α} {n:Nat} (h:∀j,j<n→f j=none):jy f n=none:=by
 unfold jy;rw[List.findSome?_eq_none_iff];intro j hj;exact h j (by simpa using hj)
theorem zdx {α:Type} {f:Nat→Option α} {n:Nat} (h:jy f n=none):∀j,j<n→f j=none:=by
 unfold jy at h;rw[List.findSome?_eq_none_iff] at h;intro j hj;exact h j (by simpa using hj)
theorem zfn {α:Type} {f:Nat→Option α} {n:Nat} {x:α} (h:jy f n=some x):∃k,k<n∧(∀j,j<k→f j=none)∧f k=some x:=by
 induction n with
 | zero=>cases h
 | succ n ih=>
  unfold jy at h ih;rw[List.range_succ,List.findSome?_append] at h
  cases e:(List.range n).findSome? f with
  | some y=>
   rw[e] at h ih;obtain⟨k,h1,h2,h3⟩:=ih h
   exact⟨k,by omega,h2,h3⟩
  | none=>
   rw[e] at h;refine⟨n,by omega,zdx e,?_⟩;simpa using h
def zcs (l:List Iv) (i:Nat):Option (Nat×Nat):=
 if (za l i).2<(za l i).1 then some (2,i) else if 0<i∧yo (za l (i - 1)) (za l i)≠0 then some (3,i) else none
def ck (l:List Iv):Option (Nat×Nat):=jy (zcs l) l.length
def zae:Option (Nat×Nat)→Err
 | none=>none
 | some (c,i)=>some ((c:Int),some (i:Int))
theorem zdy (k:FuncId):Fence.wide.fn k=True:=rfl
theorem zfo {F:Fence} {n:Nat} {P:Program} {w:World} {ops:Array Oper} {rest:List Oper} {o:Oper} {a:Act} {Q:Exit→Act→World→Prop} (hg:o.guard=none) (s x:Operand) (t:TypeId)
 (hop:o.op=Op.call { callee:=Callee.builtin Builtin.append,args:= #[s,x],argTypes:= #[t,t] })
 (v u:Value) (hs:a.eval s=v) (hx:a.eval x=u) (v':Value) (w':World) (hrun:(Builtin.append_ #[t,t] o.type #[v,u]).run P w=.ok v' w')
 (h:wpListIn F n P ops Q rest (a.put o.dst v') w'):wpListIn F n P ops Q (o :: rest) a w:=by
 refine wpListIn_plain hg fun K hK=>?_
 unfold Oper.wpIn;refine⟨?_,?_⟩
 · simp[Oper.about,hop,resolve,Target.leads,Sem.run_pure]
 · rw[Oper.semAt_plain F _ _ (by rw[hop];intro c hc;cases hc)];simp[execOp,hop,resolve,invoke,builtin,hs,hx,hrun,Result.andThen];exact hK _ _ h
theorem zm4 {a b:Iv} (ha:a.1≤a.2) (hb:b.1≤b.2):yo a b=1↔a.2+1=b.1:=by
 unfold yo;repeat' split
 all_goals omega
theorem yh {w:World} {o:Obj} {k:Nat} (h:k=w.heap.size):(w.alloc o).heap[k]?=some o:=by subst h;exact World.alloc_heap_new w o
theorem qg {w:World} {o r:Obj} {k:Nat} (h:w.heap[k]?=some r):(w.alloc o).heap[k]?=some r:=(Below.heap_alloc w o k (Array.getElem?_eq_some_iff.1 h).1).trans h
theorem qk {w w':World} {base sz n:Nat} {e:TypeId} {v:Value} {xs:List Value} (h:w.ownsRow base e sz v n xs) (hk:∀k,base≤k→k<w.heap.size→w'.heap[k]?=w.heap[k]?):w'.ownsRow base e sz v n xs:=by
 refine⟨h.1,?_⟩;rcases h.2 with h2 | ⟨g,cap,cur,hv,hg,hh,r⟩
 · exact .inl h2
 · exact .inr ⟨g,cap,cur,hv,hg,(hk g hg (Array.getElem?_eq_some_iff.1 hh).1).trans hh,r⟩
end
section
open Go.RowKit Go.Shelf
def zjg {α:Type} (n:Nat) (P:Program) (g:Nat) (lb:Array Value) (encs:α→Array Value) (V S:List α→Prop) (R p:Nat→Prop) (w:World):Prop:=
 ∀(l:Nat) (J Jx:List α→World→Prop) (W:World),w.heap.size≤l→Below w.heap.size w W→
  (∀s A B,J s A→Kept (fun k=>¬R k) A B→J s B)→(∀s A B,Jx s A→Kept (fun k=>¬R k) A B→Jx s B)→
  (∀pre x W1,V (pre++[x])→J pre W1→YieldAt Fence.wide (n - 1) P l (encs x) W1 fun e W'=>
    (e=.returned (.bool true)∧J (pre++[x]) W'∧Kept p W1 W')∨(e=.returned (.bool false)∧Jx (pre++[x]) W'))→
  J [] W→
  CallsIn Fence.wide n P g (#[.func (.yield l) #[] #[]]++lb) W fun e W'=>(∃v,e=.returned v)∧((∃xs,S xs∧J xs W')∨(∃pre,V pre∧Jx pre W'))
def zv1 {α:Type} (D:Nat) (p:Nat→Prop) (I:List α→World→Prop) (Ix:Code→List α→World→Prop) (xs:List α) (W:World):Exit→Act→World→Prop
 | .normal,_,W'=>Kept (fun k=>p k∨k=D∨k=D+1) W W'∧I xs W'
 | .ret,_,W'=>Kept (fun k=>k=D∨k=D+1) W W'∧Ix .ret xs W'
 | .exit id,_,W'=>Kept (fun k=>k=D∨k=D+1) W W'∧Ix (.exit id) xs W'
 | .goto t,_,W'=>Kept (fun k=>k=D∨k=D+1) W W'∧Ix (.goto t) xs W'
 | .panic _,_,_=>False
 | .outgrown,_,_=>False
theorem zgy {α:Type} {n:Nat} {P:Program} {g:Operand} {ps:Array Tmp} {assign body:Code} {Q:Exit→Act→World→Prop} {a:Act} {w:World}
 {gf:Nat} {lb:Array Value} (hg:a.eval g=.func (.func gf) #[] lb) (eg:∀args w,(callFunc gf args).run P w=.ok (.enter gf args) w)
 {encs:α→Array Value} {V S:List α→Prop} {R p:Nat→Prop} (hseq:zjg (n - 1) P gf lb encs V S R p w) (hps:∀x,(encs x).size=ps.size)
 (hR:∀k,R k→k<w.heap.size) (hp:∀k,p k→k<w.heap.size)
 (I:List α→World→Prop) (Ix:Code→List α→World→Prop)
 (hI:∀s A B,I s A→Kept (fun k=>¬R k∧k≠w.heap.size∧k≠w.heap.size+1) A B→I s B)
 (hIx:∀c s A B,Ix c s A→Kept (fun k=>¬R k∧k≠w.heap.size∧k≠w.heap.size+1) A B→Ix c s B)
 (h0:I [] w)
 (hround:∀pre x W,V (pre++[x])→I pre W→w.heap.size+2≤W.heap.size→
   assign.wpIn (Fence.wide.inRound (w.heap.size+1)) (n - 1 - 1) P (Exit.then (fun a₁ W₁=>Kept (fun k=>p k∨k=w.heap.size∨k=w.heap.size+1) W W₁∧
    ∀W₂,Kept (fun k=>k≠w.heap.size+1) W₁ W₂→W₂.heap.size=W₁.heap.size→body.wpIn (Fence.wide.inRound (w.heap.size+1)) (n - 1 - 1) P (zv1 w.heap.size p I Ix (pre++[x]) W₂) a₁ W₂) (fun _ _ _=>False))
    { tmps:=(ps.zip (encs x)).foldl (fun t (u,v)=>t.setIfInBounds u v) a.tmps,defers:=[] } W)
 (hdone:∀(xs:List α) (W:World),S xs→I xs W→W.heap[w.heap.size]?=some (.deferred (some []))→Q .normal { a with defers:={ target:=.collected w.heap.size,args:= #[] } :: a.defers } W)
 (hstop:∀(c:Code) (pre:List α) (W:World),V pre→Ix c pre W→W.heap[w.heap.size]?=some (.deferred (some []))→c.wpIn Fence.wide n P Q { a with defers:={ target:=.collected w.heap.size,args:= #[] } :: a.defers } W):
 (Code.rangeFunc g ps assign body).wpIn Fence.wide n P Q a w:=by
 refine wpIn_rangeFunc fun fn hfn=>?_
 obtain⟨D,hD⟩:∃D,D=w.heap.size:=⟨_,rfl⟩;obtain⟨rec,hrec⟩:∃rec:LoopState→Option Code→Loop,rec=fun st pe=>{ state:=st,pending:=pe,fn,tmps:=a.tmps,params:=ps,assign,body,defers:=D }:=⟨_,rfl⟩
 obtain⟨W1,hW1⟩:∃W1,(w.alloc (.deferred (some []))).alloc (.loop (rec .ready none))=W1:=⟨_,rfl⟩;have hsize:W1.heap.size=D+2:=by rw[←hW1,hD];simp
 have hL:W1.heap[D+1]?=some (.loop (rec .ready none)):=by
  rw[←hW1,hD];have h:=World.alloc_heap_new (w.alloc (.deferred (some []))) (.loop (rec .ready none));rwa [World.size_alloc] at h
 have hK:W1.heap[D]?=some (.deferred (some [])):=by
  rw[←hW1,hD];exact(Below.heap_alloc _ _ _ (by simp)).trans (World.alloc_heap_new w _)
 have hkW:Kept (fun _=>True) w W1:=by rw[←hW1];exact((Kept.refl _ w).alloc _).alloc _
 have hI1:I [] W1:=hI _ _ _ h0 (hkW.mono fun _ _ _=>trivial)
 refine⟨D+1,[{ target:=.collected D,args:= #[] }],W1,{ target:=.fn (.func gf) lb,args:= #[.func (.yield (D+1)) #[] #[]] },W1,gf,
  #[.func (.yield (D+1)) #[] #[]]++lb,W1,?_,?_,fun _ _=>trivial,?_,(fun h=>by cases h),?_⟩
 · rw[←hW1,hrec,hD];exact run_enterLoop_outer _ _ _ _ _
 · simp only[resolve,hg];simp[go_sem]
 · simp[invoke,go_sem,eg]
 have hbook:∀{A B:World},Kept (fun k=>¬R k) A B→Kept (fun k=>¬R k∧k≠w.heap.size∧k≠w.heap.size+1) A B:=fun h=>h.mono fun k _ hk=>hk.1
 have hnR:¬R D∧¬R (D+1):=⟨fun h=>by have:=hR _ h;omega,fun h=>by have:=hR _ h;omega⟩;have hnp:¬p D∧¬p (D+1):=⟨fun h=>by have:=hp _ h;omega,fun h=>by have:=hp _ h;omega⟩
 have hrow:∀{A B:World} {k:Nat} {o:Obj} {u:Nat→Prop},Kept u A B→u k→A.heap[k]?=some o→B.heap[k]?=some o:=fun h hu ho=>
  (h.row _ (Array.getElem?_eq_some_iff.1 ho).1 hu).trans ho
 have hturn:∀{s:List α} {A:World} {o:Obj},I s A→I s (A.putObj (D+1) o):=fun {s A o} h=>hI _ _ _ h ((Kept.refl _ A).putObj (fun _ e=>e.2.2 (by rw[hD])) o)
 have hturnx:∀{c:Code} {s:List α} {A:World} {o:Obj},Ix c s A→Ix c s (A.putObj (D+1) o):=fun {c s A o} h=>hIx _ _ _ _ h ((Kept.refl _ A).putObj (fun _ e=>e.2.2 (by rw[hD])) o)
 refine(hseq (D+1)
  (fun pre W=>I pre W∧W.heap[D+1]?=some (.loop (rec .ready none))∧W.heap[D]?=some (.deferred (some []))∧D+2≤W.heap.size)
  (fun pre W=>∃c,Ix c pre W∧W.heap[D+1]?=some (.loop (rec .done (some c)))∧W.heap[D]?=some (.deferred (some [])))
  W1 (by omega) (hkW.toBelow (fun _ _=>trivial) (Nat.le_refl _))
  (fun s A B hs h=>⟨hI _ _ _ hs.1 (hbook h),hrow h hnR.2 hs.2.1,hrow h hnR.1 hs.2.2.1,Nat.le_trans hs.2.2.2 h.size⟩)
  (fun s A B hs h=>by obtain⟨c,h1,h2,h3⟩:=hs;exact⟨c,hIx _ _ _ _ h1 (hbook h),hrow h hnR.2 h2,hrow h hnR.1 h3⟩)
  ?_ ⟨hI1,hL,hK,by omega⟩).mono ?_
 · rintro pre x W hV ⟨hi,hl,hk,hsz⟩;have hy:=run_yield (P:=P) (args:=encs x) hl (by rw[hrec];exact hps x);rw[hrec] at hy;refine⟨fn,_,assign,body,hy,roundIn_of_wpIn hfn ?_⟩;rw[hD];refine wpIn_mono (hround pre x W hV hi (by omega)) ?_;rintro e a₁ Wa hq
   cases e with
   | normal=>
    obtain⟨hka,hbody⟩:=hq;have hl1:Wa.heap[D+1]?=some (.loop (rec .ready none)):=hrow hka (by rw[hD];exact .inr (.inr rfl)) hl;have hk1:Wa.heap[D]?=some (.deferred (some [])):=hrow hka (by rw[hD];exact .inr (.inl rfl)) hk;rw[←hD];refine⟨_,run_beginRound hl1 (by rw[hrec]),?_⟩;obtain⟨Wb,hWb⟩:∃Wb,Wb=Wa.putObj (D+1) (.loop { rec .ready none with state:=.busy }):=⟨_,rfl⟩;rw[←hWb];have hlt:D+1<Wa.heap.size:=(Array.getElem?_eq_some_iff.1 hl1).1;have hl2:Wb.heap[D+1]?=some (.loop { rec .ready none with state:=.busy }):=by rw[hWb];exact World.putObj_heap_same hlt
    have hk2:Wb.heap[D]?=some (.deferred (some [])):=by rw[hWb];exact(World.putObj_heap_other (by omega)).trans hk1
    have hab:Kept (fun k=>k≠w.heap.size+1) Wa Wb:=by rw[hWb];exact(Kept.refl _ Wa).putObj (fun _ e=>e (by rw[hD])) _
    have hb2:=hbody Wb hab (by rw[hWb];simp);rw[←hD] at hb2;refine wpIn_mono hb2 ?_
    have fin:∀(jump:Option Code) (W3:World),Kept (fun k=>k=D∨k=D+1) Wb W3→
     (Instr.endRound (D+1) jump).run P W3=.ok (.bool jump.isNone) (W3.putObj (D+1) (.loop (rec (if jump.isNone then .ready else .done) jump)))∧
     (W3.putObj (D+1) (.loop (rec (if jump.isNone then .ready else .done) jump))).heap[D+1]?=some (.loop (rec (if jump.isNone then .ready else .done) jump))∧
     (W3.putObj (D+1) (.loop (rec (if jump.isNone then .ready else .done) jump))).heap[D]?=some (.deferred (some []))∧D+2≤W3.heap.size:=by
     intro jump W3 h3;have hl3:=hrow h3 (.inr rfl) hl2;have hk3:=hrow h3 (.inl rfl) hk2;have hlt3:=(Array.getElem?_eq_some_iff.1 hl3).1;have hr:=run_endRound (P:=P) jump hl3;rw[hrec] at hr ⊢;exact⟨hr,World.putObj_heap_same hlt3,(World.putObj_heap_other (by omega)).trans hk3,by omega⟩
    have small:∀{W3:World},Kept (fun k=>p k∨k=D∨k=D+1) Wb W3→Kept (fun k=>k=D∨k=D+1) Wb W3:=fun h=>h.mono fun _ _ hk=>.inr hk
    rintro e a3 W3 hp3
    cases e with
    | normal=>
     obtain⟨h3,hi3⟩:=hp3;obtain⟨e1,e2,e3,e4⟩:=fin none W3 (small h3);refine⟨_,_,e1,.inl ⟨rfl,⟨hturn hi3,e2,e3,by simpa using e4⟩,?_⟩⟩;have k1:Kept p W Wa:=hka.mono fun _ _ hk=>.inl hk
     have k2:Kept p Wa Wb:=hab.mono fun k _ hk e=>hnp.2 (by rw[hD];exact e ▸ hk)
     have k3:Kept p Wb W3:=h3.mono fun _ _ hk=>.inl hk
     exact((k1.trans k2).trans k3).putObj (fun _ hk=>hnp.2 hk) _
    | ret=>
     obtain⟨h3,hi3⟩:=hp3;obtain⟨e1,e2,e3,_⟩:=fin (some .ret) W3 h3
     exact⟨_,_,e1,.inr ⟨rfl,.ret,hturnx hi3,e2,e3⟩⟩
    | exit id=>
     obtain⟨h3,hi3⟩:=hp3;obtain⟨e1,e2,e3,_⟩:=fin (some (.exit id)) W3 h3
     exact⟨_,_,e1,.inr ⟨rfl,.exit id,hturnx hi3,e2,e3⟩⟩
    | goto t=>
     obtain⟨h3,hi3⟩:=hp3;obtain⟨e1,e2,e3,_⟩:=fin (some (.goto t)) W3 h3
     exact⟨_,_,e1,.inr ⟨rfl,.goto t,hturnx hi3,e2,e3⟩⟩
    | panic ch=>exact hp3.elim
    | outgrown=>exact hp3.elim
   | exit id=>exact hq.elim
   | goto t=>exact hq.elim
   | ret=>exact hq.elim
   | panic ch=>exact hq.elim
   | outgrown=>exact hq.elim
 · rintro e W2 ⟨⟨v,rfl⟩,(⟨xs,hS,hi,hl,hk,_⟩ | ⟨pre,hV,c,hi,hl,hk⟩)⟩
   · have hr:=run_endLoop (P:=P) hl (by rw[hrec];simp);rw[hrec] at hr;refine⟨none,_,hr,?_⟩;have:=hdone xs _ hS (hturn hi (o:=.loop { rec .ready none with state:=.exhausted })) (by rw[←hD];exact(World.putObj_heap_other (by omega)).trans hk);rw[hrec] at this;rw[hD] at this ⊢;exact this
   · have hr:=run_endLoop (P:=P) hl (by rw[hrec];simp);rw[hrec] at hr;refine⟨some c,_,hr,?_⟩;have:=hstop c pre _ hV (hturnx hi (o:=.loop { rec .done (some c) with state:=.exhausted })) (by rw[←hD];exact(World.putObj_heap_other (by omega)).trans hk);rw[hrec] at this;rw[hD] at this ⊢;exact this
