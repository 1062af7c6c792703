/- Part 32. -/
import Derived.Test.YtdnipikdddfhfaaGreatDoorWd31
set_option linter.unusedVariables false
set_option maxHeartbeats 16000000
namespace Go.Proofs.YtdnipikdddfhfaaGreatDoor
open Lib (hid)
section
def itL (L:List Seg) (i:Nat):List Iv:=(L.filter fun p=>decide (p.2=i)).map (·.1)
def kt (vs:List Vec) (L:List Seg):Kno:=qi vs (y9 L) (ql L)
theorem zcl (vs:List Vec) (L:List Seg):(kt vs L).length=vs.length:=zqb _ _ _ _
theorem zei {vs:List Vec} {L:List Seg} {i:Nat} (h:i<vs.length):zb (kt vs L) i=(itL L i,qq vs i):=by
 have:=zz2 (vs:=vs) (l:=y9 L) (ix:=(ql L).map fun (n:Nat)=>(n:Int)) (d:=(y9 L).length) h;rw[zsv L i _ (by rw[kq];exact Nat.le_refl _),kq,List.take_length] at this;unfold kt qi zh2;rw[kq];exact this
theorem zik {L:List Seg} {i:Nat} {s:Iv} (h:s∈itL L i):(s,i)∈L:=by
 obtain⟨p,hp,rfl⟩:=List.mem_map.1 h;obtain⟨h1,h2⟩:=List.mem_filter.1 hp;have e:p.2=i:=of_decide_eq_true h2;subst e;exact h1
theorem z4a {L:List Seg} (h:L.Pairwise zls):∀p∈L,∀q∈L,p=q∨p.1.2<q.1.1∨q.1.2<p.1.1:=by
 intro p hp q hq;obtain⟨i,hi,rfl⟩:=List.getElem_of_mem hp;obtain⟨j,hj,rfl⟩:=List.getElem_of_mem hq;rcases Nat.lt_trichotomy i j with h1 | h1 | h1
 · exact .inr (.inl (List.pairwise_iff_getElem.1 h i j hi hj h1).1)
 · subst h1;exact .inl rfl
 · exact .inr (.inr (List.pairwise_iff_getElem.1 h j i hj hi h1).1)
theorem zs0 {le lh:Int} {vs:List Vec} {L:List Seg} (hv:VsInv le lh vs) (hs:SInv vs.length (y9 L) (ql L)) (hne:∀f∈kt vs L,f.1≠[]):CanK (kt vs L)∧LtK (kt vs L):=by
 obtain⟨h1,h2⟩:=zsw hs
 have hmem:∀f∈kt vs L,∃i,i<vs.length∧f=(itL L i,qq vs i):=fun f hf=>by
  obtain⟨i,hi,rfl⟩:=List.getElem_of_mem hf;have hi':=hi;rw[zcl] at hi';exact⟨i,hi',by rw[←ym hi,zei hi']⟩
 have hgood:∀i,Good (itL L i):=fun i=>zsx (List.pairwise_map.2 ((h1.filter _).imp_of_mem fun {p q} hp hq hpq=>by
  have e1:p.2=i:=of_decide_eq_true (List.mem_filter.1 hp).2;have e2:q.2=i:=of_decide_eq_true (List.mem_filter.1 hq).2;exact hpq.2 (by rw[e1,e2]))) fun s hs=>(h2 _ (zik hs)).1
 refine⟨⟨fun f hf=>?_,fun f hf=>?_,fun f hf g hg x hx hy=>?_,?_⟩,fun f hf=>?_⟩
 · obtain⟨i,hi,rfl⟩:=hmem f hf;exact⟨hgood i,hne _ hf⟩
 · obtain⟨i,hi,rfl⟩:=hmem f hf;have:=hv.all _ (zky hi);exact⟨this.1,this.2.2.1⟩
 · obtain⟨i,hi,rfl⟩:=hmem f hf;obtain⟨j,hj,rfl⟩:=hmem g hg;obtain⟨s,hs1,hs2,hs3⟩:=mem_iff.1 hx;obtain⟨t,ht1,ht2,ht3⟩:=mem_iff.1 hy;rcases z4a h1 _ (zik hs1) _ (zik ht1) with e | e | e
   · have e':i=j:=congrArg Prod.snd e;subst e'
     rfl
   · simp only at e;omega
   · simp only at e;omega
 · refine List.pairwise_iff_getElem.2 fun i j hi hj hij=>?_
   have hi':=hi;have hj':=hj;rw[zcl] at hi' hj';have h3:=List.pairwise_iff_getElem.1 hv.asc i j hi' hj' hij;unfold kk;rw[←ym hi,←ym hj,zei hi',zei hj',zcx hi',zcx hj'];exact h3
 · obtain⟨i,hi,rfl⟩:=hmem f hf;have:=hv.all _ (zky hi);exact⟨fun s hs'=>hs.lt s (List.mem_map.2 ⟨_,zik hs',rfl⟩),this.2.1,this.1.asc⟩
theorem z4b {n:Nat}:∀{L:List Seg},(∀p∈L,p.2<n)→L.Perm ((List.range n).flatMap fun i=>L.filter fun p=>decide (p.2=i)):=by
 induction n with
 | zero=>
  intro L h
  cases L with
  | nil=>simp
  | cons p L=>exact absurd (h p List.mem_cons_self) (by omega)
 | succ n ih=>
  intro L h;rw[List.range_succ,List.flatMap_append];have e:((L.filter fun p=>decide (p.2=n))++(L.filter fun p=> !decide (p.2=n))).Perm L:=List.filter_append_perm _ _;refine e.symm.trans (List.perm_append_comm.trans ?_)
  have h1:=ih (L:=L.filter fun p=> !decide (p.2=n)) (fun p hp=>by
   obtain⟨a,b⟩:=List.mem_filter.1 hp;have:=h p a;have b':p.2≠n:=by simpa using b
   omega)
  have e2:((List.range n).flatMap fun i=>(L.filter fun p=> !decide (p.2=n)).filter fun p=>decide (p.2=i))=(List.range n).flatMap fun i=>L.filter fun p=>decide (p.2=i):=by
   rw[List.flatMap_def,List.flatMap_def];refine congrArg List.flatten (List.map_congr_left fun i hi=>?_);rw[List.filter_filter];refine List.filter_congr fun p _=>?_
   have:=List.mem_range.1 hi;by_cases hp:p.2=i
   · have:p.2≠n:=by omega
     simp[hp];omega
   · simp[hp]
  rw[e2] at h1;refine h1.append ?_;simp
theorem zs1 (c:Kno):∀d,d≤c.length→jm c d=c.length :: ((vsK c).take d).flatMap zam
 | 0,_=>by simp[jm]
 | d+1,h=>by
   rw[jm,zs1 c d (by omega),List.take_succ_eq_append_getElem (by rw[zdi];exact h),zig h,List.flatMap_append];simp
theorem z4c (vs:List Vec) (L:List Seg):vsK (kt vs L)=vs:=by
 refine List.ext_getElem (by rw[zdi,zcl]) fun i h1 h2=>?_
 rw[zig (by rw[zcl];exact h2),zei h2,zcx h2]
theorem z4d {le lh:Int} {vs:List Vec} {L:List Seg} (hv:VsInv le lh vs) (hs:SInv vs.length (y9 L) (ql L)) (hne:∀f∈kt vs L,f.1≠[]):(zi (kt vs L)).map (·.1)=y9 L∧(zi (kt vs L)).map (·.2)=ql L:=by
 obtain⟨hc,hl⟩:=zs0 hv hs hne;obtain⟨h1,h2⟩:=zsw hs
 have hp:(y9 L).Perm (jv (kt vs L)):=by
  have e:=(z4b (n:=vs.length) (L:=L) fun p hp=>(h2 p hp).2).map (·.1);refine e.trans ?_;rw[List.map_flatMap]
  have:jv (kt vs L)=(List.range vs.length).flatMap fun i=>(L.filter fun p=>decide (p.2=i)).map (·.1):=by
   unfold jv
   have:kt vs L=(List.range vs.length).map fun i=>(itL L i,qq vs i):=List.ext_getElem (by rw[zcl];simp) fun i a b=>by
    rw[zcl] at a;rw[←ym,zei a,List.getElem_map,List.getElem_range]
   rw[this,List.flatMap_map]
   rfl
  rw[this]
 have ha:zds (y9 L):=fun i j hij hj=>by
  rw[kq] at hj;have h3:=(List.pairwise_iff_getElem.1 h1 i j (by omega) hj hij).1;have h4:=(h2 _ (List.getElem_mem (show i<L.length by omega))).1;rw[yw (by rw[kq];omega),yw (by rw[kq];exact hj)];simp only[y9,List.getElem_map];omega
 obtain⟨e1,e2⟩:=zp1 hc hp ha;refine⟨e1.symm,?_⟩;rw[←e2];unfold y9 ql;rw[List.map_map];refine List.map_congr_left fun p hp=>?_
 have hi:=(h2 p hp).2
 have:=zpz hc (i:=p.2) (s:=p.1) (by rw[zcl];exact hi) (by
  rw[zei hi];exact List.mem_map.2 ⟨p,List.mem_filter.2 ⟨hp,decide_eq_true rfl⟩,rfl⟩)
 exact this
theorem z4e {T:zt} (hT:T64 T) {E p q:Nat} {L:zg} {c:Kno} (h:qm T E L p=.ok (c,q)):CanK c∧LtK c∧okK L c∧jg T p (qr c) q∧E≤q:=by
 unfold qm at h;obtain⟨n,r,h1,h2⟩:=j8 h;obtain⟨t1,c1⟩:=zge h1;obtain⟨vs,r2,h3,h4⟩:=j8 h2;obtain⟨a1,a2,a3⟩:=zsr hT n [] h3 ⟨fun v hv=>(by cases hv),List.Pairwise.nil⟩ (P0:=r) rfl;have hn:vs.length=n:=by simpa using a3
 unfold zao at h4;obtain⟨m,r3,h5,h6⟩:=j8 h4;obtain⟨t2,c2⟩:=zge h5;obtain⟨⟨l,ix⟩,r4,h7,h8⟩:=j8 h6;obtain⟨b1,b2,b3⟩:=zsu hT m [] [] h7 ⟨fun i hi=>(by simp at hi),fun t ht=>(by cases ht),rfl,fun i hi=>(by simp at hi),fun i _ hi=>(by simp at hi)⟩ (P0:=r3) rfl;have hm:l.length=m:=by simpa using b3
 simp only at h8;obtain⟨S,e1,e2⟩:∃S:List Seg,y9 S=l∧ql S=ix:=⟨l.zip ix,List.map_fst_zip (by rw[b2.len];exact Nat.le_refl _),List.map_snd_zip (by rw[b2.len];exact Nat.le_refl _)⟩;subst e1 e2;unfold kg at h8;split at h8
 · cases h8
 · rename_i h9;split at h8
   · cases h8
   · rename_i h10;cases h8;have hne:∀f∈kt vs S,f.1≠[]:=fun f hf e=>h9 ⟨f,hf,e⟩
     obtain⟨g1,g2⟩:=zs0 a2 b2 hne;obtain⟨g3,g4⟩:=z4d a2 b2 hne;have hsl:(zi (kt vs S)).length=(y9 S).length:=by rw[←g3,List.length_map]
     refine⟨g1,g2,⟨?_,fun i hi=>?_,?_⟩,?_,by omega⟩
     · show okC (kt vs S).length _;rw[zcl,hn];exact c1
     · have hi':i<vs.length:=by rw[←zcl vs S];exact hi
       show okV _ _ (zb (kt vs S) i).2;rw[zei hi'];exact(a2.all _ (zky hi')).2.2.2
     · show okC (zi (kt vs S)).length _;rw[hsl,hm];exact c2
     · show jg T p (qr (kt vs S)) _;unfold qr;rw[g3,g4,hsl,zs1 _ _ (Nat.le_refl _),List.take_of_length_le (by rw[zdi];exact Nat.le_refl _),z4c,zcl,zss];refine kj.2 ⟨r2,⟨r,by rw[hn];exact t1,a1⟩,⟨r3,by rw[hm];exact t2,b1⟩⟩
end
section
open Go.RowKit
attribute [local go_sem] zad
theorem wk0 {w:World} {base R U C:Nat} {L:zg} (hR:Row w R 130 (wkC L (.iface 123 (.agg #[])) (.slice none 0 0) U C .nilIface)) (hU:UsedM w U []) (hC:Row w C 193 (jj C 0 0 none false)) (b1:base≤R) (b2:base≤U) (b3:base≤C):WkR w base R L ws0:=
 ⟨b1,_,_,U,C,b2,b3,hR,hU,rfl,zrj _ _,hC⟩
set_option maxRecDepth 20000 in
theorem z4f (L:zg) (w:World):Calls Tryz.prog 25 #[lmV L] w fun e w'=>∃R,e=.returned (.pointer (some ⟨R,0,none⟩))∧WkR w' w.heap.size R L ws0∧Below w.heap.size w w':=by
 unfold lmV;have HS:=hid (fun W=>zqx 0 W);have hmm:=@run_makeMap Tryz.prog;have hX:=ju w 24 [.int .i64 L.1,.int .i64 L.2.1,.int .i64 L.2.2.1,.int .i64 L.2.2.2.1,.int .i64 L.2.2.2.2];have HX:=hid hX
 have HLim:=hid (fun W W' (h1:Below (w.heap.size+1) (w.alloc (.cells #[.int .i64 L.1,.int .i64 L.2.1,.int .i64 L.2.2.1,.int .i64 L.2.2.2.1,.int .i64 L.2.2.2.2] 24)) W) (h2:Below W.heap.size W W')=>
  have h:=(hX.below h1 (by omega)).later h2
  And.intro (h.cell 0 rfl) (And.intro (h.cell 1 rfl) (And.intro (h.cell 2 rfl) (And.intro (h.cell 3 rfl) (h.cell 4 rfl)))))
 clear hX;go_enter Tryz.func25,Tryz.ntmps25;go_wp2;go_region_law (go_simp;go_at_call 68;refine(HS.out _).mono ?_;rintro e w1 ⟨rfl,hr1,hb1⟩;obtain⟨l0,l1,l2,l3,l4⟩:=HLim.out _ w1 (by repeat (first | exact Below.refl _ _ | refine Below.alloc ?_ (by simp) _ | refine Below.drew ?_ | refine zy ?_ _)) hb1;have ho:=fun o=>HLim.out _ (w1.alloc o) (by repeat (first | exact Below.refl _ _ | refine Below.alloc ?_ (by simp) _ | refine Below.drew ?_ | refine zy ?_ _)) (hb1.alloc hb1.size o);have o0:=fun o=>(ho o).1;have o1:=fun o=>(ho o).2.1;have o2:=fun o=>(ho o).2.2.1;have o3:=fun o=>(ho o).2.2.2.1;have o4:=fun o=>(ho o).2.2.2.2;clear ho;have Hr1:=hid hr1;have Hb1:=hid hb1;clear hr1 hb1)
 all_goals go_wp2
 all_goals go_ret
 all_goals clear HLim HX HS hmm l0 l1 l2 l3 l4 o0 o1 o2 o3 o4
 all_goals first
  | (have hb:=Hb1.out
     have hr:=Hr1.out
     have hU:UsedM w1 (w.heap.size+1) []:=by
      have h0:=zrg (w.alloc (.cells #[.int .i64 L.1,.int .i64 L.2.1,.int .i64 L.2.2.1,.int .i64 L.2.2.2.1,.int .i64 L.2.2.2.2] 24));rw[World.size_alloc] at h0;exact h0.same (hb.block _ (by simp))
     have hz:=hb.size;simp at hz;simp at hr;have hal:=(Below.refl w1.heap.size w1).alloc (Nat.le_refl _) (.cells #[.int .i64 L.1,.int .i64 L.2.1,.int .i64 L.2.2.1,.int .i64 L.2.2.2.1,.int .i64 L.2.2.2.2,.iface 123 (.agg #[]),.slice none 0 0,.map (some (w.heap.size+1)),.pointer (some ⟨w.heap.size+1+1,0,none⟩),.nilIface] 130)
     exact⟨_,rfl,wk0 (ju w1 _ _) (hU.same (hal.block _ hU.lt)) (hr.later hal) (by omega) (by omega) (by omega),(Below.trans (by repeat (first | exact Below.refl _ _ | refine Below.alloc ?_ (by simp) _ | refine Below.drew ?_ | refine zy ?_ _)) (hb.mono (by simp;omega))).trans (hal.mono (by omega))⟩)
  | (have hb:=Hb1.out
     have hr:=Hr1.out;have hz:=hb.size;simp at hr;simp at hz;have hU:UsedM (w1.alloc (.map #[] 0)) w1.heap.size []:=zrg w1;have hm:=(Below.refl w1.heap.size w1).alloc (Nat.le_refl _) (.map #[] 0);have hal:=(Below.refl (w1.alloc (.map #[] 0)).heap.size (w1.alloc (.map #[] 0))).alloc (Nat.le_refl _) (.cells #[.int .i64 L.1,.int .i64 L.2.1,.int .i64 L.2.2.1,.int .i64 L.2.2.2.1,.int .i64 L.2.2.2.2,.iface 123 (.agg #[]),.slice none 0 0,.map (some w1.heap.size),.pointer (some ⟨w.heap.size+1,0,none⟩),.nilIface] 130);have hrow:=ju (w1.alloc (.map #[] 0)) 130 [.int .i64 L.1,.int .i64 L.2.1,.int .i64 L.2.2.1,.int .i64 L.2.2.2.1,.int .i64 L.2.2.2.2,.iface 123 (.agg #[]),.slice none 0 0,.map (some w1.heap.size),.pointer (some ⟨w.heap.size+1,0,none⟩),.nilIface];rw[World.size_alloc] at hrow;exact⟨_,rfl,wk0 hrow (hU.same (hal.block _ hU.lt)) ((hr.later hm).later hal) (by omega) (by omega) (by omega),(Below.trans (by repeat (first | exact Below.refl _ _ | refine Below.alloc ?_ (by simp) _ | refine Below.drew ?_ | refine zy ?_ _)) (hb.mono (by simp))).trans ((hm.mono (by omega)).trans (hal.mono (by simp;omega)))⟩)
end
section
open Go.RowKit
attribute [local go_sem] zad
def zaq (B:Nat):Value:=.iface 202 (.pointer (some ⟨B,0,none⟩))
structure SRows (w:World) (base R:Nat) (L:zg) (part K:Value) (U C B:Nat) (S Cu:List Value) (ix:List Nat) (vs:List Vec) (l:List Iv):Prop where
 row:Row w R 130 (wkC L part K U C .nilIface)
 srow:Row w B 204 S
 cur:Row w C 193 Cu
 used:UsedM w U ix
 seg:SegM w base K vs l ix
section
variable {w w':World} {base R:Nat} {L:zg} {part K:Value} {U C B:Nat} {S Cu:List Value} {ix:List Nat} {vs:List Vec} {l:List Iv}
theorem SRows.later (h:SRows w base R L part K U C B S Cu ix vs l) (hb:Below w.heap.size w w'):SRows w' base R L part K U C B S Cu ix vs l:=
 ⟨h.row.later hb,h.srow.later hb,h.cur.later hb,h.used.same (hb.block U h.used.lt),h.seg.later hb⟩
theorem SRows.setB (h:SRows w base R L part K U C B S Cu ix vs l) (i:Nat) (v:Value):SRows (w.setCell ⟨B,i,none⟩ v) base R L part K U C B (S.set i v) Cu ix vs l:=by
 have g:=kd w B i v;exact⟨h.row.grown g (fun e=>by injection e with e;exact h.row.ne h.srow (by decide) e),h.srow.set i v,h.cur.grown g (fun e=>by injection e with e;exact h.srow.ne h.cur (by decide) e.symm),h.used.grownT h.srow g,h.seg.grown (h.srow.notT (by rintro(h | h | h) <;> cases h)) g⟩
theorem SRows.curs (h:SRows w base R L part K U C B S Cu ix vs l) {Cu':List Value} (hc:Row w' C 193 Cu') (g:w.grownBy w' (some C)):SRows w' base R L part K U C B S Cu' ix vs l:=
 ⟨h.row.grown g (fun e=>by injection e with e;exact h.row.ne h.cur (by decide) e),h.srow.grown g (fun e=>by injection e with e;exact h.srow.ne h.cur (by decide) e),hc,h.used.grownT h.cur g,h.seg.grown (h.cur.notT (by rintro(h | h | h) <;> cases h)) g⟩
end
theorem SRows.wkr {w:World} {base R:Nat} {L:zg} {K:Value} {U C B:Nat} {last:Int} {touch:Bool} {lo0:Nat} {s:WS} {Cu:List Value} (h:SRows w base R L (zaq B) K U C B (sgC s.left s.turn last touch) Cu s.ix s.vs s.l) (ht:s.tag=3) (hR:base≤R) (hU:base≤U) (hC:base≤C) (hB:base≤B)
 (h1:∀x,s.ix.getLast?=some x→last=(x:Int)) (h2:1≤s.turn→touch=s.tch) (h3:Cu=cuC C lo0 s):WkR w base R L s:=by
 refine⟨hR,_,K,U,C,hU,hC,h.row,h.used,?_⟩;unfold WkB;simp only[ht];exact⟨B,rfl,hB,h.seg,last,touch,lo0,h.srow,h1,h2,by rw[←h3];exact h.cur⟩
def zs2 (s:WS) (p:Nat) (r:Option Nat):Except (Nat×Nat) WS:=match r with | none=>.error (8,p) | some lo=>.ok { s with turn:=1,lo:=lo,tch:=zan s.l lo }
theorem z4g {l:List Iv} {x z:Nat} (h:loP (z7 l) 0 x=some z):zan l z=(l.getLast?.isSome && decide (x=0)):=by
 unfold zan z7 at*
 cases hg:l.getLast? with
 | none=>rfl
 | some t=>
  rw[hg] at h;simp only[Option.map,loP] at h;split at h
  · injection h with h;subst h;simp only[Option.map,Option.isSome,Bool.true_and];rw[Bool.eq_iff_iff];simp only[decide_eq_true_eq];omega
  · cases h
set_option maxRecDepth 100000 in
theorem z4h (base R:Nat) (L:zg) (s:WS) (K:Value) (U C B rest x p lo0:Nat) (last:Int) (touch:Bool) (w0 w:World) (ht:s.tag=3) (hR0:base≤R) (hU:base≤U) (hC:base≤C) (hB0:base≤B) (hb0:Below base w0 w) (htu:s.turn=0)
 (hS:SRows w base R L (zaq B) K U C B (sgC s.left 0 last touch) (jj C 0 lo0 s.l.getLast? false) s.ix s.vs s.l) (hla:∀x,s.ix.getLast?=some x→last=(x:Int)) (hl:zk s.l) (hx:x<18446744073709551616) (r:Option Nat) (hr:loP (z7 s.l) 0 x=r):
 Calls Tryz.prog 113 #[.pointer (some ⟨R,0,none⟩),.pointer (some ⟨B,0,none⟩),.int .u64 (x:Int),.int .i64 (p:Int),.int .i64 (rest:Int)] w (WkS w0 base R L (zs2 s p r)):=by
 have Ht:=hid ht;have Htu:=hid htu;have Hla:=hid hla;have Hx:=hid hx;have Hl:=hid hl;have Htc:=hid (fun z (h:r=some z)=>z4g (hr.trans h));have Hr:=hid hr;have HS:=hid hS;have Hb0:=hid hb0;have HLa:=hid (zrc C 0 lo0 s.l.getLast? false w hS.cur);have hbw:base≤w.heap.size:=by have:=hS.row.lt;omega
 have Hbw:=hid hbw;have q8:=hS.row.cell 8 rfl;have v1:w.cell? ⟨B,1,none⟩=some (.int .i64 0):=hS.srow.cell 1 rfl;clear ht htu hla hx hl hr hS hb0 hbw;generalize hg:s.l.getLast?.isSome=b at*;have Hg:=hid hg;clear hg;generalize hz:s.l.getLast?.getD (0,0)=z0 at*;clear hz;obtain⟨z1,z2⟩:=z0;unfold ivV at HLa;simp only at HLa
 cases r with
 | none=>
  have HN:=hid (fun W=>za9 (c:=8) (o:=p) (by decide) W);cases b
  all_goals
   by_cases hx0:x=0
  all_goals
   have hx1:((x:Int) == 0)=decide (x=0):=by
    rw[Bool.eq_iff_iff,beq_iff_eq,decide_eq_true_iff];omega
   first
    | rw[decide_eq_true hx0] at hx1
    | rw[decide_eq_false hx0] at hx1
   have Hx0:=hid (show decide (x=0)=decide (x=0) from rfl)
   first
    | rw[show decide (x=0)=true from decide_eq_true hx0] at Htc
    | rw[show decide (x=0)=false from decide_eq_false hx0] at Htc
   clear hx0 Hx0;go_enter Tryz.func113,Tryz.ntmps113;go_wp2_with fail;refine HLa.out.mono ?_;rintro e w1 ⟨rfl,hb1⟩;have hS1:=(HS.out.later hb1).later ((Below.refl w1.heap.size w1).alloc (Nat.le_refl _) (.cells #[.int .u64 (z1:Int),.int .u64 (z2:Int)] 89));have s3:=hS1.srow.cell 3 rfl;have y3:=hS1.srow.fz 3;have HS2:=hid (fun tv=>show SRows ((w1.alloc (.cells #[.int .u64 (z1:Int),.int .u64 (z2:Int)] 89)).setCell ⟨B,3,none⟩ (.bool tv)) base R L (zaq B) K U C B (sgC s.left 0 last tv) (jj C 0 lo0 s.l.getLast? false) s.ix s.vs s.l from hS1.setB 3 (.bool tv));have HLo:=hid (fun tv=>zk8 C 0 lo0 x s.l.getLast? _ (HS2.out tv).cur (fun t ht=>(Hl.out t (List.mem_of_getLast? ht)).2) (by omega) Hx.out);have Hb2:=hid (fun tv=>Hb0.out.trans (((hb1.mono Hbw.out).trans ((Below.refl base w1).alloc (Nat.le_trans Hbw.out hb1.size) (.cells #[.int .u64 (z1:Int),.int .u64 (z2:Int)] 89))).setCell (p:=⟨B,3,none⟩) hB0 (.bool tv)));have p8:=hS1.row.cell 8 rfl;have hneB:=hS1.row.ne hS1.srow (by decide);clear hb1 hS1 q8 v1;unfold z7 at Hr;rw[Hr.out] at HLo;go_wp2_with fail;refine(HLo.out _).mono ?_;rintro e w3 ⟨rfl,hc3,hg3⟩;have HS3:=hid ((HS2.out _).curs hc3 hg3);have Hb3:=hid ((Hb2.out _).grown hg3 (Nat.le_trans hR0 (Nat.le_of_lt (HS2.out _).row.lt)) (fun k hk=>by injection hk with hk;omega));clear hc3 hg3 s3 y3;go_wp2_with fail;refine(HN.out _).mono ?_;rintro e w' ⟨rfl,rfl⟩;go_wp2_with fail;go_ret
   exact⟨Hb3.out,rfl,_,HS3.out.row,rfl⟩
 | some z=>
  have Htz:=hid (Htc.out z rfl);cases b
  all_goals
   by_cases hx0:x=0
  all_goals
   have hx1:((x:Int) == 0)=decide (x=0):=by
    rw[Bool.eq_iff_iff,beq_iff_eq,decide_eq_true_iff];omega
   first
    | rw[decide_eq_true hx0] at hx1
    | rw[decide_eq_false hx0] at hx1
   have Hx0:=hid (show decide (x=0)=decide (x=0) from rfl)
   first
    | rw[show decide (x=0)=true from decide_eq_true hx0] at Htz
    | rw[show decide (x=0)=false from decide_eq_false hx0] at Htz
   clear hx0 Hx0;go_enter Tryz.func113,Tryz.ntmps113;go_wp2_with fail;refine HLa.out.mono ?_;rintro e w1 ⟨rfl,hb1⟩;have hS1:=(HS.out.later hb1).later ((Below.refl w1.heap.size w1).alloc (Nat.le_refl _) (.cells #[.int .u64 (z1:Int),.int .u64 (z2:Int)] 89));have s3:=hS1.srow.cell 3 rfl;have y3:=hS1.srow.fz 3;have HS2:=hid (fun tv=>show SRows ((w1.alloc (.cells #[.int .u64 (z1:Int),.int .u64 (z2:Int)] 89)).setCell ⟨B,3,none⟩ (.bool tv)) base R L (zaq B) K U C B (sgC s.left 0 last tv) (jj C 0 lo0 s.l.getLast? false) s.ix s.vs s.l from hS1.setB 3 (.bool tv));have HLo:=hid (fun tv=>zk8 C 0 lo0 x s.l.getLast? _ (HS2.out tv).cur (fun t ht=>(Hl.out t (List.mem_of_getLast? ht)).2) (by omega) Hx.out);have Hb2:=hid (fun tv=>Hb0.out.trans (((hb1.mono Hbw.out).trans ((Below.refl base w1).alloc (Nat.le_trans Hbw.out hb1.size) (.cells #[.int .u64 (z1:Int),.int .u64 (z2:Int)] 89))).setCell (p:=⟨B,3,none⟩) hB0 (.bool tv)));have p8:=hS1.row.cell 8 rfl;have hneB:=hS1.row.ne hS1.srow (by decide);clear hb1 hS1 q8 v1;unfold z7 at Hr;rw[Hr.out] at HLo;go_wp2_with fail;refine(HLo.out _).mono ?_;rintro e w3 ⟨rfl,hc3,hg3⟩;have hS3:=(HS2.out _).curs hc3 hg3;have t1:w3.cell? ⟨B,1,none⟩=some (.int .i64 0):=hS3.srow.cell 1 rfl;have y1:=hS3.srow.fz 1;have HS4:=hid (hS3.setB 1 (.int .i64 1));have Hb3:=hid (((Hb2.out _).grown hg3 (Nat.le_trans hR0 (Nat.le_of_lt (HS2.out _).row.lt)) (fun k hk=>by injection hk with hk;omega)).setCell (p:=⟨B,1,none⟩) hB0 (.int .i64 1));clear hc3 hg3 s3 y3 hS3;go_wp2_with fail;go_ret;exact⟨Hb3.out,rfl,SRows.wkr (lo0:=0) (s:={ s with turn:=1,lo:=z,tch:=zan s.l z }) HS4.out Ht.out hR0 hU hC hB0 Hla.out (fun _=>by rw[Htz.out];rfl) rfl⟩
def zil (s:WS) (p x:Nat):Except (Nat×Nat) WS:=if s.lo+x<18446744073709551616 then .ok { s with turn:=2,hi:=s.lo+x } else .error (8,p)
set_option maxRecDepth 100000 in
theorem z4i (base R:Nat) (L:zg) (s:WS) (K:Value) (U C B rest x p:Nat) (last:Int) (touch:Bool) (w0 w:World) (ht:s.tag=3) (hR0:base≤R) (hU:base≤U) (hC:base≤C) (hB0:base≤B) (hb0:Below base w0 w)
 (hS:SRows w base R L (zaq B) K U C B (sgC s.left 1 last touch) (jj C 0 s.lo s.l.getLast? true) s.ix s.vs s.l) (hla:∀x,s.ix.getLast?=some x→last=(x:Int)) (hto:touch=s.tch) (hlo:s.lo<18446744073709551616) (hx:x<18446744073709551616):
 Calls Tryz.prog 113 #[.pointer (some ⟨R,0,none⟩),.pointer (some ⟨B,0,none⟩),.int .u64 (x:Int),.int .i64 (p:Int),.int .i64 (rest:Int)] w (WkS w0 base R L (zil s p x)):=by
 have Ht:=hid ht;have Hla:=hid hla;have Hto:=hid hto;have HS:=hid hS;have Hb0:=hid hb0;have HHi:=hid (zrb C 0 s.lo x s.l.getLast? w hS.cur hlo hx);have Hbw:=hid (show base≤w.heap.size by have:=hS.row.lt;omega);have q8:=hS.row.cell 8 rfl;have v1:w.cell? ⟨B,1,none⟩=some (.int .i64 1):=hS.srow.cell 1 rfl;clear ht hla hto hS hb0 hlo hx;unfold zgc at HHi;by_cases hc:s.lo+x<18446744073709551616
 · have HHi2:=hid (HHi.out.mono fun e w' h=>by rw[if_pos hc] at h;exact h);have Hv:=hid (show zil s p x=.ok { s with turn:=2,hi:=s.lo+x } from if_pos hc);clear HHi hc;generalize hz:s.lo+x=z at*;clear hz;unfold ivV at HHi2;go_enter Tryz.func113,Tryz.ntmps113;go_wp2_with fail;refine HHi2.out.mono ?_;rintro e w1 ⟨rfl,hc1,hg1⟩;have hS1:=((HS.out).curs hc1 hg1).later ((Below.refl w1.heap.size w1).alloc (Nat.le_refl _) (.cells #[.int .u64 (s.lo:Int),.int .u64 (z:Int)] 89));have Hb1:=hid (((Hb0.out.grown hg1 (Nat.le_trans (by have:=Hb0.out.size;have:=Hbw.out;exact this) (Nat.le_refl _)) (fun k hk=>by injection hk with hk;omega)).alloc (by have:=Hbw.out;have:=hg1.size;omega) (.cells #[.int .u64 (s.lo:Int),.int .u64 (z:Int)] 89)).setCell (p:=⟨B,1,none⟩) hB0 (.int .i64 2));have t1:∀o,(w1.alloc o).cell? ⟨B,1,none⟩=some (.int .i64 1):=fun o=>(((HS.out).curs hc1 hg1).later ((Below.refl w1.heap.size w1).alloc (Nat.le_refl _) o)).srow.cell 1 rfl
   have y1:∀o,(w1.alloc o).frozen? ⟨B,1,none⟩=false:=fun o=>(((HS.out).curs hc1 hg1).later ((Below.refl w1.heap.size w1).alloc (Nat.le_refl _) o)).srow.fz 1
   have HS4:=hid (hS1.setB 1 (.int .i64 2));clear hc1 hg1 hS1 q8 v1;go_wp2_with fail;go_ret;exact⟨Hb1.out,by rw[Hv.out];exact⟨rfl,SRows.wkr (lo0:=s.lo) (s:={ s with turn:=2,hi:=z }) HS4.out Ht.out hR0 hU hC hB0 Hla.out (fun _=>Hto.out) rfl⟩⟩
 · have HHi2:=hid (HHi.out.mono fun e w' h=>by rw[if_neg hc] at h;exact h);have Hv:=hid (show zil s p x=.error (8,p) from if_neg hc);have HN:=hid (fun W=>za9 (c:=8) (o:=p) (by decide) W);clear HHi hc;unfold ivV at HHi2;go_enter Tryz.func113,Tryz.ntmps113;go_wp2_with fail;refine HHi2.out.mono ?_;rintro e w1 ⟨rfl,hc1,hg1⟩;have HS1:=hid (fun o=>((HS.out).curs hc1 hg1).later ((Below.refl w1.heap.size w1).alloc (Nat.le_refl _) o));have Hb1:=hid (fun o=>(Hb0.out.grown hg1 (by have:=Hbw.out;exact this) (fun k hk=>by injection hk with hk;omega)).alloc (by have:=Hbw.out;have:=hg1.size;omega) o);clear hc1 hg1 q8 v1;go_wp2_with fail;refine(HN.out _).mono ?_;rintro e w' ⟨rfl,rfl⟩;go_wp2_with fail;go_ret;exact⟨Hb1.out _,by rw[Hv.out];exact⟨rfl,_,(HS1.out _).row,rfl⟩⟩
end
section
open Go.RowKit
theorem z4j {l:List Nat} {E m:Nat} (hl:∀c∈l,c<256):∀(N:Nat) (acc:List Iv) (q:Nat) {h:List Iv} {q2:Nat},jb (zf l E) m N acc q=.ok (h,q2)→q≤l.length→q≤E→q≤q2∧q2≤l.length∧q2≤E:=by
 intro N
 induction N with
 | zero=>intro acc q h q2 e h1 h2;cases e;exact⟨Nat.le_refl _,h1,h2⟩
 | succ N ih=>
  intro acc q h q2 e h1 h2;unfold jb at e
  cases hi:ivP (zf l E) (z7 acc) 1 q with
  | error x=>rw[hi] at e;cases e
  | ok y=>
   obtain⟨⟨s,wh⟩,q3⟩:=y;rw[hi,ye] at e;obtain⟨a1,a2,a3,-,-,-⟩:=zii hl hi;unfold zaw at e;split at e
   · cases e
   · have:=ih _ _ e a2 a3;omega
theorem zim {l:List Nat} {E q q2 x:Nat} {lim:Int} (hl:∀c∈l,c<256) (h:yj (zf l E) E lim q=.ok (x,q2)):q+1≤q2:=by
 unfold yj nmP at h
 cases hT:zf l E q with
 | error c=>rw[hT] at h;cases h
 | ok y=>
  obtain⟨z,q1⟩:=y;obtain⟨t1,-,-,-,-⟩:=za8 hl hT;simp only[hT,thn] at h;split at h
  · cases h;omega
  · cases h
theorem zs3 {l:List Nat} {E q q2:Nat} {lim:Int} {v:Vec} {y:Ent} (hl:∀c∈l,c<256) (h:jr (zf l E) E lim v q=.ok (y,q2)):q+1≤q2∧q2≤l.length∧q2≤E:=by
 unfold jr nmP at h
 cases hT:zf l E q with
 | error c=>rw[hT] at h;cases h
 | ok z=>
  obtain⟨x,q1⟩:=z;obtain⟨t1,t2,t3,-,-⟩:=za8 hl hT;simp only[hT,thn] at h;split at h
  · cases h
  · unfold zbs nmP at h;rename_i r _
    cases hT2:zf l E q1 with
    | error c=>simp only[hT2,thn] at h;cases h
    | ok z2=>
     obtain⟨mx,q3⟩:=z2;obtain⟨u1,u2,u3,-,-⟩:=za8 hl hT2;simp only[hT2,thn] at h;unfold zb6 at h
     cases hc:yj (zf l E) E lim q3 with
     | error c=>rw[hc] at h;cases h
     | ok z3=>
      obtain⟨n,q4⟩:=z3;rw[hc,ye] at h;obtain⟨b1,b2,-⟩:=zfb hl hc
      cases hh:jb (zf l E) mx n [] q4 with
      | error c=>rw[hh] at h;cases h
      | ok z4=>
       obtain⟨hs,q5⟩:=z4;rw[hh,ye] at h;cases h;have:=z4j hl n [] q4 hh b1 b2;have:=zim hl hc;omega
theorem OwnV.slice {w:World} {base:Nat} {V:Value} {v:Vec} (h:OwnV w base V v):∃a c,V=.slice a v.length c:=by
 obtain⟨ss,ho,-⟩:=h;exact jz ho
theorem OwnV.ne {w:World} {base g:Nat} {B V:Value} {E:Nat} {s:Except (Nat×Nat) Nat} {v:Vec} (hV:OwnV w base V v) (h:CurM w g B E s):some g≠V.ownBlock:=by
 obtain⟨ss,ho,-⟩:=hV;exact fun e=>CurM.ne_own h ho (by decide) g e.symm rfl
theorem OwnV.row {w:World} {base r:Nat} {V:Value} {v:Vec} {T:TypeId} {C:List Value} (hV:OwnV w base V v) (h:Row w r T C) (hT:T≠93):some r≠V.ownBlock:=by
 obtain⟨ss,ho,-⟩:=hV;exact fun e=>h.ne_own ho hT r e.symm rfl
theorem CurM.notT {w:World} {g:Nat} {B:Value} {E:Nat} {s:Except (Nat×Nat) Nat} (h:CurM w g B E s):NotT w g:=by
 cases s with
 | ok q=>exact Row.notT h (by unfold zai;decide)
 | error e=>obtain⟨q,h⟩:=h;exact h.notT (by unfold zai;decide)
theorem OwnV.junk {w:World} {base:Nat} {V:Value} {v:Vec} {r m x:Nat} {a:Option Addr} {y:Nat} (hV:OwnV w base V v) (A:Option Addr) (c:Nat) (hr:Rd w 3 A 1 [.int .u64 (r:Nat),.int .u64 (m:Nat),.slice a x y]) (hb:v.length+1≤1000000000000) (hbase:base≤w.heap.size):
 ∃V' w',(Builtin.append_ #[95,95] 95 #[V,.slice A 1 c]).run Tryz.prog w=.ok V' w'∧w.grownBy w' V.ownBlock∧(∀k,V.ownBlock=some k→base≤k):=by
 obtain⟨ss,ho,hh⟩:=hV;obtain⟨V',w',h1,h2,h3⟩:=zbi base _ _ _ _ 3 40 Tryz.underlying95 Tryz.info_ent rfl (by omega) V v.length _ ho A 1 c _ hr (by simp[Value.oneCell']) (by unfold maxLen;omega) (by omega) hbase;exact⟨V',w',h1,h3,fun k hk=>(ho.lt k hk).1⟩
def zbu (w:World) (g:Nat) (B:Value) (E:Nat) (r:RR Vec) (e:Ending) (w':World):Prop:=
 yd r e w w' g B E (fun v=>∃V,e=.returned V∧OwnV w' w.heap.size V v∧LtV v) (e=.returned (.slice none 0 0))
def zs4 (w wi:World) (l:List Nat) (E n N:Nat) (lim:Int) (V:Value) (k:Nat) (res:RR Vec):Except (Nat×Nat) Nat→Prop
 | .ok q=>∃v,v.length=k∧q≤n∧q≤E∧LtV v∧v.length≤q∧OwnV wi w.heap.size V v∧qu (zf l E) E lim (N - k) v q=res
 | .error x=>res=.error x
set_option maxRecDepth 20000 in
theorem z4k {w:World} {g n cap E q:Nat} {a:Option Addr} {l:List Nat} {L:zg} (hB:∀W,w.grownBy W (some g)→Rf W a n cap E l) (h:CurM w g (.slice a n cap) E (.ok q)) (hq:q≤n) (hqE:q≤E) (hn6:n≤1000000) (hL:LimsI L):
 Calls Tryz.prog 96 #[.pointer (some ⟨g,0,none⟩),lmV L] w (zbu w g (.slice a n cap) E (vk (zf l E) E L.2.2.1 L.2.2.2.1 q)):=by
 have hg:=CurM.lt h;have Hlt:=hid (hB w (jk _ _)).b.lt;have Hbl:=hid (hB w (jk _ _)).b.len;have HEb:=hid (hB w (jk _ _)).E;obtain⟨w0,hw0⟩:∃w0,w0=w.alloc (.cells #[.int .i64 L.1,.int .i64 L.2.1,.int .i64 L.2.2.1,.int .i64 L.2.2.2.1,.int .i64 L.2.2.2.2] 24):=⟨_,rfl⟩;have hb0:Below w.heap.size w w0:=by rw[hw0];exact(Below.refl _ _).alloc (Nat.le_refl _) _
 have HL0:=hid (show Row w0 w.heap.size 24 [.int .i64 L.1,.int .i64 L.2.1,.int .i64 L.2.2.1,.int .i64 L.2.2.2.1,.int .i64 L.2.2.2.2] from by rw[hw0];exact ju w _ _);have HG0:=hid (show w.grownBy w0 (some g) from ji (jk _ _) hb0);have hC0:=CurM.later h hb0;have HCt:=hid (zid (hB _ HG0.out) hC0 hq hqE hL.c);have HC0:=hid hC0;have HB:=hid hB;have HLi:=hid hL;have HnL:=hid (show some w.heap.size≠some g from by intro e;injection e;omega);have Hw0:=hid hw0;have c1:=Row.cell hC0 1 rfl;have l2:=HL0.out.cell 2 rfl;rw[hw0] at c1 l2;clear hw0 hB h hb0 hg hC0 hL;unfold lmV;go_enter Tryz.func96,Tryz.ntmps96;go_wp2_with fail;clear c1 l2;rw[←Hw0.out];refine HCt.out.mono ?_;rintro e w1 hres;unfold yd at hres;obtain⟨hg1,hres⟩:=hres;have HG1:=hid (yr HG0.out hg1);have HL1:=hid (HL0.out.grown hg1 HnL.out);clear hg1
 cases hct:yj (zf l E) E L.2.2.1 q with
 | error ex=>
  rw[hct] at hres;obtain⟨hC1,rfl⟩:=hres;have Hr:=hid (show vk (zf l E) E L.2.2.1 L.2.2.2.1 q=.error ex from by unfold vk;rw[hct];rfl);have HC1:=hid hC1;clear hC1 hct;go_wp2_with fail;refine(zia (c:=9) (p:=q) HC1.out).mono ?_;rintro e wz ⟨rfl,rfl⟩;go_wp2;go_loopw [7,8] (fun y i wi=>i=.int .i64 0∧y=.slice none 0 0∧wi=w1) (fun _ _ _=>0)
  case atStart=>exact⟨rfl,rfl,rfl⟩
  case round=>
   obtain⟨rfl,rfl,rfl⟩:=hrel;go_wp2_with fail;refine(vw HC1.out).mono ?_;rintro e wz ⟨rfl,rfl⟩;go_wp2_with fail;go_ret;show zbu _ _ _ _ _ _ _;unfold zbu yd;rw[Hr.out]
   exact⟨HG1.out,HC1.out,rfl⟩
 | ok y=>
  obtain⟨N,q1⟩:=y;rw[hct] at hres;obtain⟨hC1,rfl⟩:=hres;have hqq:=zfb Hlt.out hct;rw[Hbl.out] at hqq;have HC1:=hid hC1;rcases Nat.eq_zero_or_pos N with h0 | h0
  · have Hr:=hid (show vk (zf l E) E L.2.2.1 L.2.2.2.1 q=.error (9,q) from by unfold vk;rw[hct,h0];rfl);subst h0;clear hC1 hct hqq;rw[show ((0:Nat):Int)=0 from rfl];go_wp2_with fail;refine(za7 (c:=9) (p:=q) HC1.out (by decide)).mono ?_;rintro e w2 ⟨rfl,hg2,hC2⟩;have HG2:=hid (yr HG1.out hg2);have HC2:=hid hC2;clear hg2 hC2;go_wp2;go_loopw [7,8] (fun y i wi=>i=.int .i64 0∧y=.slice none 0 0∧wi=w2) (fun _ _ _=>0)
    case atStart=>exact⟨rfl,rfl,rfl⟩
    case round=>
     obtain⟨rfl,rfl,rfl⟩:=hrel;go_wp2_with fail;refine(vw HC2.out).mono ?_;rintro e wz ⟨rfl,rfl⟩;go_wp2_with fail;go_ret;show zbu _ _ _ _ _ _ _;unfold zbu yd;rw[Hr.out];exact⟨HG2.out,HC2.out,rfl⟩
  · have hz:((N:Int) == 0)=false:=by rw[beq_eq_false_iff_ne];omega
    obtain⟨res,hres⟩:∃res,qu (zf l E) E L.2.2.2.1 N [] q1=res:=⟨_,rfl⟩;have hen:vk (zf l E) E L.2.2.1 L.2.2.2.1 q=res:=by unfold vk;rw[hct,ye,if_neg (by omega),hres]
    have Hr:=hid hen;have hN:N≤4000000000000000000:=Nat.le_trans hqq.2.2 HEb.out;have Hq1:=hid (show q1≤n∧q1≤E from⟨hqq.1,hqq.2.1⟩);have Hres:=hid (show qu (zf l E) E L.2.2.2.1 (N - 0) [] q1=res from hres);clear hC1 hct hqq hres hen;go_wp2;go_loopw [7,8] (fun y i wi=>∃(k:Nat) (V:Value) (cs:Except (Nat×Nat) Nat),k≤N∧i=.int .i64 k∧y=V∧Hid (w.grownBy wi (some g))∧Hid (Row wi w.heap.size 24 [.int .i64 L.1,.int .i64 L.2.1,.int .i64 L.2.2.1,.int .i64 L.2.2.2.1,.int .i64 L.2.2.2.2])∧Hid (CurM wi g (.slice a n cap) E cs)∧Hid (zs4 w wi l E n N L.2.2.2.1 V k res cs)) (fun _ i _=>N - (intOf i).toNat)
    case atStart=>exact⟨0,.slice none 0 0,.ok q1,by omega,rfl,rfl,HG1.out,HL1.out,HC1.out,[],rfl,Hq1.out.1,Hq1.out.2,(fun e he=>(by cases he)),Nat.zero_le _,zjz _ _,Hres.out⟩
    case round=>
     obtain⟨k,V,cs,hk,rfl,rfl,hGr,hLm,hC,hI⟩:=hrel;by_cases hkN:k<N
     · have hd:decide ((k:Int)<(N:Int))=true:=by rw[decide_eq_true_iff];omega
       have hd':decide (k<N)=true:=by rw[decide_eq_true_iff];omega
       cases cs with
       | error ex=>
        have Hr2:=hid (Hr.out.trans hI.out);go_wp2_with fail;refine(vw hC.out).mono ?_;rintro e wz ⟨rfl,rfl⟩;go_wp2_with fail;refine(vw hC.out).mono ?_;rintro e wz ⟨rfl,rfl⟩;go_wp2_with fail;go_ret;show zbu _ _ _ _ _ _ _;unfold zbu yd;rw[Hr2.out]
        exact⟨hGr.out,hC.out,rfl⟩
       | ok q4=>
        obtain⟨v,e1,j1,j2,j3,j4,j5,j6⟩:=hI.out;have HV:=hid j5;have Hj:=hid (And.intro j1 (And.intro j2 (And.intro j3 (And.intro e1 j4))));have Hst:=hid (show thn (jr (zf l E) E L.2.2.2.1 v q4) (fun e q=>qu (zf l E) E L.2.2.2.1 (N - (k+1)) (v++[e]) q)=res from by rw[←j6,show N - k=(N - (k+1))+1 by omega];rfl);obtain⟨av,cv,rfl,hE⟩:=j5.ents j3;have l0:=hLm.out.cell 0 rfl;have l1:=hLm.out.cell 1 rfl;have l2:=hLm.out.cell 2 rfl;have l3:=hLm.out.cell 3 rfl;have l4:=hLm.out.cell 4 rfl;have HEn:=hid (fun fst bf hv hbf=>z35 (v:=v) (fst:=fst) (bf:=bf) (Rf.keep HB.out hGr.out) hC.out j1 j2 hn6 hv hbf HLi.out);rcases Nat.eq_zero_or_pos k with hk0 | hk0
        case' inl=>
         have hz0:decide (0<(k:Int))=false:=by rw[decide_eq_false_iff_not];omega
         have hz1:((k:Int) == 0)=true:=by rw[beq_iff_eq];omega
         have HEr:=hid (HEn.out true 0 (.inl ⟨List.length_eq_zero_iff.1 (e1.trans hk0),rfl⟩) (by decide));clear hE
        case' inr=>
         have hz0:decide (0<(k:Int))=true:=by rw[decide_eq_true_iff];omega
         have hz1:((k:Int) == 0)=false:=by rw[beq_eq_false_iff_ne];omega
         have hge:v.getLast?=some (ze v (k - 1)):=by rw[List.getLast?_eq_getElem?,e1,List.getElem?_eq_getElem (by omega),ja (by omega)]
         have hbf:(ze v (k - 1)).1<18446744073709551616:=(j3 _ (kn (by omega))).1;have HEr:=hid (HEn.out false (ze v (k - 1)).1 (.inr ⟨_,hge,rfl,rfl⟩) hbf);obtain⟨bb,oo,rfl,hcells⟩:=hE.cells (by omega);have hcell:=(hcells (k - 1) (by omega)).1;have hsub:IntKind.i64.wrap ((k:Int) - 1)=((k - 1:Nat):Int):=by rw[IntKind.wrap_i64];omega
         have h1:(0:Int)≤((k - 1:Nat):Int):=by omega
         have h2:((k - 1:Nat):Int)<(v.length:Int):=by omega
         clear hE hge hbf hcells;generalize ze v (k - 1)=en at*;generalize k - 1=km at*
        all_goals
         clear e1 j1 j2 j3 j4 j5 j6 HEn;go_wp2_with fail;refine(kp hC.out).mono ?_;rintro e wz ⟨rfl,rfl⟩;go_wp2_with fail;refine HEr.out.mono ?_;rintro e w2 hres;unfold kr yd at hres;obtain⟨hg2,hres⟩:=hres;have HG2:=hid (yr hGr.out hg2);have HL2:=hid (hLm.out.grown hg2 HnL.out);have HV2:=hid (HV.out.grown (CurM.notT hC.out) hg2)
         cases hep:jr (zf l E) E L.2.2.2.1 v q4 with
         | error ex=>
          rw[hep] at hres;obtain⟨hC2,x,y,ax,nx,cx,rfl⟩:=hres;have Hnew:=hid (show res=.error ex from by rw[←Hst.out,hep];rfl);have hal:=(Below.refl w2.heap.size w2).alloc (Nat.le_refl _) (.cells #[.int .u64 x,.int .u64 y,.slice ax nx cx] 93);have hV3:=HV2.out.below hal;obtain⟨V',w4,hrun,hg4,hk4⟩:=hV3.junk (some ⟨w2.heap.size,0,none⟩) 1 (zdu _ _ _ 1 _ rfl rfl) (by have:=Hj.out;omega) (by have:=(HG2.out).size;simp only[World.size_alloc];omega);have HG4:=hid (zeh (ji HG2.out hal) hg4 hk4);have HL4:=hid ((HL2.out.later hal).grown hg4 (hV3.row (HL2.out.later hal) (by decide)));have HC4:=hid ((CurM.later hC2 hal).grown hg4 (hV3.ne (CurM.later hC2 hal)));clear hg2 hep hal hV3 hg4 hk4 hC2;go_wp2_with (at_builtin;refine jh _ _ 95 rfl rfl _ _ rfl rfl _ _ hrun ?_);clear hrun;go_roundw
          case rel=>exact⟨k+1,_,.error ex,by omega,by go_num,rfl,HG4.out,HL4.out,HC4.out,Hnew.out⟩
          case measure=>simp[intOf];omega
         | ok y=>
          obtain⟨⟨r,m,hs⟩,q5⟩:=y;rw[hep] at hres;obtain⟨hC2,S,rfl,hS,hls,hr64,hm64⟩:=hres;simp only[] at hS hls hr64 hm64;have hw:=zs3 Hlt.out hep;rw[Hbl.out] at hw;have hal:=(Below.refl w2.heap.size w2).alloc (Nat.le_refl _) (.cells #[.int .u64 r,.int .u64 m,S] 93);have hV3:=HV2.out.below hal;have hS3:=qs (w':=w2.alloc (.cells #[.int .u64 r,.int .u64 m,S] 93)) hS fun k hk=>Below.heap_alloc _ _ _ (hS.lt k hk).2
          obtain⟨V',w4,hrun,hV4,hg4,hk4⟩:=hV3.add hS3 hls (some ⟨w2.heap.size,0,none⟩) 1 (zdu _ _ _ 1 _ rfl rfl) (by have:=Hj.out;omega) (by have:=(HG2.out).size;simp only[World.size_alloc];omega);have HG4:=hid (zeh (ji HG2.out hal) hg4 hk4);have HL4:=hid ((HL2.out.later hal).grown hg4 (hV3.row (HL2.out.later hal) (by decide)));have HC4:=hid ((CurM.later hC2 hal).grown hg4 (hV3.ne (CurM.later hC2 hal)))
          have Hnew:=hid (show zs4 w w4 l E n N L.2.2.2.1 V' (k+1) res (.ok q5) from⟨v++[(r,m,hs)],by rw[List.length_append,Hj.out.2.2.2.1];rfl,hw.2.1,hw.2.2,fun t ht=>by
           rcases List.mem_append.1 ht with h | h
           · exact Hj.out.2.2.1 t h
           · rw[List.mem_singleton] at h;subst h;exact⟨hr64,hm64,hls⟩,by have:=Hj.out;simp;omega,hV4,by rw[←Hst.out,hep,ye]⟩)
          obtain⟨a4,c4,rfl⟩:=hV4.slice;obtain⟨a6,c6,rfl⟩:=jz hS;clear hg2 hep hal hV3 hg4 hk4 hC2 hS hls hr64 hm64 hw hS3 hV4;generalize (v++[(r,m,hs)]).length=n4 at*;go_wp2_with (at_builtin;refine jh _ _ 95 rfl rfl _ _ rfl rfl _ _ hrun ?_);clear hrun;go_roundw
          case rel=>exact⟨k+1,_,.ok q5,by omega,by go_num,rfl,HG4.out,HL4.out,HC4.out,Hnew.out⟩
          case measure=>simp[intOf];omega
     · obtain rfl:k=N:=by omega
       have hd:decide ((k:Int)<(k:Int))=false:=by rw[decide_eq_false_iff_not];omega
       cases cs with
       | error ex=>
        have Hr2:=hid (Hr.out.trans hI.out);go_wp2_with fail;refine(vw hC.out).mono ?_;rintro e wz ⟨rfl,rfl⟩;go_wp2_with fail;go_ret;show zbu _ _ _ _ _ _ _;unfold zbu yd;rw[Hr2.out]
        exact⟨hGr.out,hC.out,rfl⟩
       | ok q4=>
        obtain⟨v,e1,j1,j2,j3,j4,j5,j6⟩:=hI.out;have Hr2:=hid (show vk (zf l E) E L.2.2.1 L.2.2.2.1 q=.ok (v,q4) from by rw[Hr.out,←j6,Nat.sub_self];rfl);have Hv:=hid (And.intro j5 j3);clear e1 j1 j2 j3 j4 j5 j6;go_wp2_with fail;refine(kp hC.out).mono ?_;rintro e wz ⟨rfl,rfl⟩;go_wp2_with fail;go_ret;show zbu _ _ _ _ _ _ _;unfold zbu yd;rw[Hr2.out];exact⟨hGr.out,hC.out,_,rfl,Hv.out.1,Hv.out.2⟩
