/- Part 03. -/
import Derived.Test.YtmfhggnlainmiaaGreatDoorPk02
set_option linter.unusedVariables false
set_option maxHeartbeats 16000000
namespace Go.Proofs.YtmfhggnlainmiaaGreatDoor
open Lib (hid)
section
open Go.RowKit
def Rd (w:World) (sz:Nat) (A:Option Addr) (n:Nat) (xs:List Value):Prop:=
 xs.length=n*sz∧(0<n→∃b o,A=some ⟨b,o,none⟩∧∀j u,xs[j]?=some u→w.cell? ⟨b,o+j,none⟩=some u)
theorem Rd.below {w w':World} {sz n:Nat} {A:Option Addr} {xs:List Value} (h:Rd w sz A n xs) (hb:Below w.heap.size w w'):Rd w' sz A n xs:=
 ⟨h.1,fun hn=>by
  obtain⟨b,o,e,hc⟩:=h.2 hn;refine⟨b,o,e,fun j u hu=>?_⟩;have:=hc j u hu;exact(hb.cell (p:=⟨b,o+j,none⟩) (zf this)).trans this⟩
theorem Rd.own {w:World} {base sz n c:Nat} {e:TypeId} {A:Option Addr} {xs:List Value} (h:w.ownsRow base e sz (.slice A n c) n xs):Rd w sz A n xs:=by
 refine⟨h.1,fun hn=>?_⟩;obtain⟨g,cap,hv,_,hlt⟩:=h.form hn;have hA:A=some ⟨g,0,none⟩:=by injection hv
 subst hA;refine⟨g,0,rfl,fun j u hu=>?_⟩;have:=h.cells (g:=g) rfl j u hu;rwa [qg] at this
theorem Rd.news {w:World} {sz n:Nat} {x:Addr} {xs:List Value} (h:Rd w sz (some x) n xs) (hz:0<sz):∀j u,xs[j]?=some u→w.cell? (x.add j)=some u:=by
 intro j u hu
 have hn:0<n:=by
  refine Nat.pos_of_ne_zero fun h0=>?_
  subst h0;have:xs=[]:=List.eq_nil_of_length_eq_zero (by simpa using h.1);rw[this] at hu;simp at hu
 obtain⟨b,o,e,hc⟩:=h.2 hn;cases e;rw[qg];exact hc j u hu
theorem z8w {P:Program} (w:World) (base:Nat) (t ty e:TypeId) (i:TypeInfo) (size:Nat) (ht:P.underlying t=some (.slice e)) (hi:P.info? e=some i)
 (v:Value) (n:Nat) (xs:List Value) (hown:w.ownsRow base e size v n xs) (c:Nat):(Builtin.append_ #[t,t] ty #[v,.slice none 0 c]).run P w=.ok v w:=by
 rcases hown.2 with ⟨rfl,rfl⟩ | ⟨g,cap,cur,rfl,_,_,hnc,_⟩
 · simp[Builtin.append_,run_underlying ht,sizeOf,typeInfo,hi,Builtin.lenOf,Builtin.firstCells]
 · simp[Builtin.append_,run_underlying ht,sizeOf,typeInfo,hi,Builtin.lenOf,Builtin.firstCells,hnc,storeCells]
theorem zcf {P:Program} {w:World} (base:Nat) (t ty e:TypeId) (z:Value) (size bytes:Nat) (ht:P.underlying t=some (.slice e))
 (hinfo:(P.info? e).map (fun i=>(i.zero,i.size,i.bytes))=some (some z,size,bytes)) (hzs:z.cells.size=size) (hsz:0<size)
 (v:Value) (n:Nat) (xs:List Value) (hown:w.ownsRow base e size v n xs) (A:Option Addr) (m c:Nat) (news:List Value) (hr:Rd w size A m news) (h1:∀u∈news,u.oneCell'=true)
 (hlen:n+m≤maxLen) (hbytes:(n+m)*bytes≤140737488355328) (hbase:base≤w.heap.size):
 ∃v' w',(Builtin.append_ #[t,t] ty #[v,.slice A m c]).run P w=.ok v' w'∧w'.ownsRow base e size v' (n+m) (xs++news)∧w.grownBy w' v.ownBlock:=by
 obtain⟨i,hi,hz,hs,hby⟩:=info_parts hinfo;rcases A with _ | x
 · have hm:m=0:=by
    rcases Nat.eq_zero_or_pos m with h0 | h0
    · exact h0
    · obtain⟨b,o,h,_⟩:=hr.2 h0;cases h
   subst hm;have hn:news=[]:=List.eq_nil_of_length_eq_zero (by simpa using hr.1);subst hn;exact⟨v,w,z8w w base t ty e i size ht hi v n xs hown c,by simpa using hown,World.grownBy.refl w _⟩
 · obtain⟨v',w',hrun,ho,hg,_⟩:=run_append_own (P:=P) w base t ty e i z size bytes ht hi hz hs hby hzs hsz v n xs hown x m c news hr.1 (hr.news hsz) h1 hlen hbytes hbase;exact⟨v',w',hrun,ho,hg⟩
theorem zft {P:Program} {w:World} {ops:Array Oper} {o:Oper} {a:Act} {K:Act→World→Prop} {Q:Exit→Act→World→Prop} {E:Prop} (hgd:o.guard=none) (s x:Operand) (t:TypeId)
 (ho:o.op=.call { callee:=.builtin .append,args:= #[s,x],argTypes:= #[t,t] })
 (v u:Value) (hs:a.eval s=v) (hx:a.eval x=u) (v':Value) (w':World) (hrun:(Builtin.append_ #[t,t] o.type #[v,u]).run P w=.ok v' w')
 (h:K (a.put o.dst v') w'):if Region.wanted o (yielded ops a.tmps)=true then Oper.wp P o a w K Q else E:=by
 have hw:Region.wanted o (yielded ops a.tmps)=true:=by simp[Region.wanted,hgd]
 rw[if_pos hw];unfold Oper.wp;simp[execOp,ho,resolve,invoke,builtin,hs,hx,hrun,Result.andThen];exact h
structure U64s (w:World) (a:Option Addr) (n cap:Nat) (l:List Nat):Prop where
 len:l.length=n
 lt:∀x∈l,x<18446744073709551616
 room:n≤cap
 most:cap≤9223372036854775807
 nilc:a=none→cap=0
 cells:0<n→∃b o,a=some ⟨b,o,none⟩∧∀i,i<n→w.cell? ⟨b,o+i,none⟩=some (.int .u64 ((nth l i:Nat):Int))
def zi (l:List Nat):List Value:=l.map fun x=>Value.int .u64 ((x:Nat):Int)
theorem zrj (a b:List Nat):zi (a++b)=zi a++zi b:=by simp[zi]
theorem zfu (a:List Nat):(zi a).length=a.length:=by simp[zi]
theorem ze2 (l:List Nat) (i:Nat) (h:i<l.length):(zi l)[i]?=some (.int .u64 ((nth l i:Nat):Int)):=by simp[zi,nth,h]
theorem zns (l:List Nat):∀u∈zi l,u.oneCell'=true:=by
 intro u hu;simp only[zi,List.mem_map] at hu;obtain⟨x,_,rfl⟩:=hu
 rfl
theorem U64s.below {w w':World} {a:Option Addr} {n cap:Nat} {l:List Nat} (h:U64s w a n cap l) (hb:Below w.heap.size w w'):U64s w' a n cap l:=by
 refine⟨h.len,h.lt,h.room,h.most,h.nilc,fun hn=>?_⟩;obtain⟨b,o,ha,hc⟩:=h.cells hn;refine⟨b,o,ha,fun i hi=>?_⟩;have:=hc i hi;exact(hb.cell (p:=⟨b,o+i,none⟩) (zf this)).trans this
theorem U64s.rd {w:World} {a:Option Addr} {n cap:Nat} {l:List Nat} (h:U64s w a n cap l):Rd w 1 a n (zi l):=by
 refine⟨by rw[zfu,h.len];omega,fun hn=>?_⟩;obtain⟨b,o,e,hc⟩:=h.cells hn;refine⟨b,o,e,fun j u hu=>?_⟩
 have hj:j<l.length:=by
  rcases Nat.lt_or_ge j l.length with h' | h'
  · exact h'
  · rw[List.getElem?_eq_none (by rw[zfu];exact h')] at hu;cases hu
 rw[ze2 l j hj] at hu;cases hu;exact hc j (by rw[←h.len];exact hj)
theorem zcx {w:World} {base n:Nat} {T:TypeId} {v:Value} {l:List Nat} (h:w.ownsRow base T 1 v n (zi l)) (hl:∀x∈l,x<18446744073709551616):∃a cap,v=.slice a n cap∧U64s w a n cap l:=by
 have hlen:l.length=n:=by have:=h.1;rw[zfu] at this;omega
 rcases h.2 with ⟨rfl,rfl⟩ | ⟨g,cap,cur,rfl,hg,hh,hnc,hcm,_⟩
 · exact⟨none,0,rfl,hlen,hl,by omega,by omega,fun _=>rfl,fun h=>by omega⟩
 · refine⟨_,_,rfl,hlen,hl,hnc,by unfold maxLen at hcm;omega,(by intro h;cases h),fun hn=>⟨g,0,rfl,fun i hi=>?_⟩⟩;have hc:=h.cells (g:=g) rfl i (.int .u64 ((nth l i:Nat):Int)) (ze2 l i (by omega));rw[qg] at hc;exact hc
theorem Ivs.rd {w:World} {a:Option Addr} {n cap:Nat} {l:List Iv} (h:Ivs w a n cap l):Rd w 2 a n (ivC l):=by
 refine⟨by rw[zgg,h.len],fun hn=>?_⟩;obtain⟨b,o,e,hc⟩:=h.cells hn;refine⟨b,o,e,fun j u hu=>?_⟩
 have hj:j<l.length*2:=by
  rcases Nat.lt_or_ge j (l.length*2) with h' | h'
  · exact h'
  · rw[List.getElem?_eq_none (by rw[zgg];exact h')] at hu;cases hu
 have hi:j / 2<l.length:=by omega
 obtain⟨e1,e2⟩:=zgh l (j / 2) hi;obtain⟨c1,c2⟩:=hc (j / 2) (by rw[←h.len];exact hi);rcases Nat.mod_two_eq_zero_or_one j with hm | hm
 · rw[show j / 2*2=j by omega] at e1 c1;rw[e1] at hu;cases hu;exact c1
 · rw[show j / 2*2+1=j by omega] at e2;rw[show o+j / 2*2+1=o+j by omega] at c2;rw[e2] at hu;cases hu;exact c2
theorem Tryz.info_u64:(Tryz.prog.info? 64).map (fun i=>(i.zero,i.size,i.bytes))=some (some (.int .u64 0),1,8):=by kernel_rfl
theorem Tryz.info_iv:(Tryz.prog.info? 135).map (fun i=>(i.zero,i.size,i.bytes))=some (some (.agg #[.int .u64 0,.int .u64 0]),2,16):=by kernel_rfl
theorem zhf {w:World} (base:Nat) (v:Value) (n:Nat) (xs:List Nat) (hown:w.ownsRow base 64 1 v n (zi xs)) (A:Option Addr) (m c:Nat) (l:List Nat) (hr:Rd w 1 A m (zi l)) (hb:n+m≤1000000000000) (hbase:base≤w.heap.size):
 ∃v' w',(Builtin.append_ #[62,62] 62 #[v,.slice A m c]).run Tryz.prog w=.ok v' w'∧w'.ownsRow base 64 1 v' (n+m) (zi (xs++l))∧w.grownBy w' v.ownBlock:=by
 rw[zrj];exact zcf base _ _ _ _ 1 8 Tryz.underlying62 Tryz.info_u64 rfl (by omega) v n _ hown A m c _ hr (zns l) (by unfold maxLen;omega) (by omega) hbase
theorem zem {w:World} (base:Nat) (v:Value) (n:Nat) (xs:List Iv) (hown:w.ownsRow base 135 2 v n (ivC xs)) (A:Option Addr) (m c:Nat) (l:List Iv) (hr:Rd w 2 A m (ivC l)) (hb:n+m≤1000000) (hbase:base≤w.heap.size):
 ∃v' w',(Builtin.append_ #[123,123] 123 #[v,.slice A m c]).run Tryz.prog w=.ok v' w'∧w'.ownsRow base 135 2 v' (n+m) (ivC (xs++l))∧w.grownBy w' v.ownBlock:=by
 rw[znn];exact zcf base _ _ _ _ 2 16 Tryz.underlying123 Tryz.info_iv rfl (by omega) v n _ hown A m c _ hr (zwk l) (by unfold maxLen;omega) (by omega) hbase
structure Rls (w:World) (a:Option Addr) (n cap:Nat) (ls:List (List Iv)):Prop where
 len:ls.length=n
 room:n≤cap
 most:cap≤9223372036854775807
 nilc:a=none→cap=0
 cells:0<n→∃b o,a=some ⟨b,o,none⟩∧∀i,i<n→∃A c,w.cell? ⟨b,o+i,none⟩=some (.slice A (ls.getD i []).length c)∧Ivs w A (ls.getD i []).length c (ls.getD i [])
theorem Rls.below {w w':World} {a:Option Addr} {n cap:Nat} {ls:List (List Iv)} (h:Rls w a n cap ls) (hb:Below w.heap.size w w'):Rls w' a n cap ls:=by
 refine⟨h.len,h.room,h.most,h.nilc,fun hn=>?_⟩;obtain⟨b,o,ha,hc⟩:=h.cells hn;refine⟨b,o,ha,fun i hi=>?_⟩;obtain⟨A,c,h1,h2⟩:=hc i hi;exact⟨A,c,(hb.cell (p:=⟨b,o+i,none⟩) (zf h1)).trans h1,h2.below hb⟩
theorem zrk {w:World} {base n c:Nat} {T:TypeId} {a:Option Addr} {l:List Nat} (h:w.ownsRow base T 1 (.slice a n c) n (zi l)) (hn:0<n):∃g,a=some ⟨g,0,none⟩∧base≤g∧n≤c∧∀i,i<n→w.cell? ⟨g,i,none⟩=some (.int .u64 ((nth l i:Nat):Int)):=by
 have hlen:l.length=n:=by have:=h.1;rw[zfu] at this;omega
 rcases h.2 with ⟨_,h0⟩ | ⟨g,cap,cur,hv,hg,hh,hnc,hcm,_⟩
 · omega
 · obtain⟨rfl,rfl⟩:a=some ⟨g,0,none⟩∧c=cap:=by simpa using hv
   refine⟨g,rfl,hg,hnc,fun i hi=>?_⟩;have hc:=h.cells (g:=g) rfl i (.int .u64 ((nth l i:Nat):Int)) (ze2 l i (by omega));rw[qg,Nat.zero_add] at hc;exact hc
theorem zk9 {w:World} {base n c:Nat} {T:TypeId} {a:Option Addr} {xs:List Value} {sz:Nat} (h:w.ownsRow base T sz (.slice a n c) n xs):(a=none∧n=0∧c=0)∨∃g,a=some ⟨g,0,none⟩∧base≤g∧n≤c∧g<w.heap.size:=by
 rcases h.2 with ⟨hv,h0⟩ | ⟨g,cap,cur,hv,hg,hh,hnc,hcm,_⟩
 · obtain⟨rfl,rfl,rfl⟩:a=none∧n=0∧c=0:=by simpa using hv
   exact .inl ⟨rfl,rfl,rfl⟩
 · obtain⟨rfl,rfl⟩:a=some ⟨g,0,none⟩∧c=cap:=by simpa using hv
   exact .inr ⟨g,rfl,hg,hnc,(Array.getElem?_eq_some_iff.1 hh).1⟩
theorem yq {w:World} {g sz n:Nat} {e:TypeId} {C:Array Value} {fr:Nat×Nat} {xs:List Value} (h:w.heap[g]?=some (.cells C e fr)) (hC:C=xs.toArray) (hx:xs.length=n*sz):Rd w sz (some ⟨g,0,none⟩) n xs:=by
 subst hC;refine⟨hx,fun _=>⟨g,0,rfl,fun j u hu=>?_⟩⟩;simp only[World.cell?,h];simpa using hu
theorem zh (w:World) (o:Obj) (g:Nat) (h:g=w.heap.size):(w.alloc o).heap[g]?=some o:=by subst h;exact heap_alloc_new w o
theorem qt {w:World} {base b size n:Nat} {e:TypeId} {v:Value} {xs:List Value} (h:w.ownsRow base e size v n xs) (hb:b≤base):w.ownsRow b e size v n xs:=
 ⟨h.1,h.2.imp id fun ⟨g,cap,cur,h1,h2,r⟩=>⟨g,cap,cur,h1,Nat.le_trans hb h2,r⟩⟩
def ju (a b:Iv):Nat:=
 if a.2<b.1 then (if 0<b.1 - a.2 - 1 then (if b.2<a.1 then (if 0<a.1 - b.2 - 1 then 2 else 1) else 0) else (if b.2<a.1 then (if 0<a.1 - b.2 - 1 then 3 else 2) else 1))
 else (if b.2<a.1 then (if 0<a.1 - b.2 - 1 then 4 else 3) else 2)
theorem z8x {k:IntKind} {a b:Int} {x:Value} (h:a=b):Ending.returned (.tuple #[.int k a,x])=.returned (.tuple #[.int k b,x]):=by rw[h]
theorem zjv (a b:Nat) (w:World) (h:a<b) (hb:b<18446744073709551616):
 Calls Tryz.prog 198 #[.int .u64 a,.int .u64 b] w fun e w'=>e=.returned (.tuple #[.int .u64 ((b - a - 1:Nat):Int),.bool true])∧w=w':=by
 have e1:=hid (show IntKind.u64.wrap ((b:Int) - (a:Int))=((b - a:Nat):Int) from by rw[IntKind.wrap_u64];omega);have e2:=hid (show IntKind.u64.wrap (((b - a:Nat):Int) - 1)=((b - a - 1:Nat):Int) from by rw[IntKind.wrap_u64];omega);clear hb;go_enter Tryz.func198,Tryz.ntmps198;go_wp2;go_ret2;refine⟨z8x ?_,rfl⟩;rw[e1.out,e2.out]
theorem znt (a b:Nat) (w:World) (h:¬a<b):
 Calls Tryz.prog 198 #[.int .u64 a,.int .u64 b] w fun e w'=>e=.returned (.tuple #[.int .u64 0,.bool false])∧w=w':=by
 go_enter Tryz.func198,Tryz.ntmps198;go_wp2;go_ret2;exact⟨rfl,rfl⟩
theorem zwo (s:Iv) (w:World):
 Calls Tryz.prog 235 #[ivV s] w fun e w'=>e=.returned (zy (if s.2<s.1 then some (2,none) else none))∧Below w.heap.size w w':=by
 obtain⟨a,b⟩:=s;by_cases h:b<a
 · rw[if_pos h];simp only[zy];go_enter Tryz.func235,Tryz.ntmps235;go_wp2;go_ret;exact⟨rfl,(Below.refl _ _).alloc (Nat.le_refl _) _⟩
 · rw[if_neg h];simp only[zy];go_enter Tryz.func235,Tryz.ntmps235;go_wp2;go_ret;exact⟨rfl,(Below.refl _ _).alloc (Nat.le_refl _) _⟩
theorem zrl (a b:Iv) (w:World) (ha:a.1<18446744073709551616∧a.2<18446744073709551616) (hb:b.1<18446744073709551616∧b.2<18446744073709551616):
 Calls Tryz.prog 236 #[ivV a,ivV b] w fun e w'=>e=.returned (.int .i64 ((ju a b:Nat):Int))∧Below w.heap.size w w':=by
 obtain⟨x,y⟩:=a;obtain⟨z,u⟩:=b;have hz:=hb.1;have hx:=ha.1;clear ha hb;simp only at hx hz
 have hw:Below w.heap.size w ((w.alloc (.cells #[.int .u64 x,.int .u64 y] 135)).alloc (.cells #[.int .u64 z,.int .u64 u] 135)):=
  ((Below.refl _ _).alloc (Nat.le_refl _) _).alloc (by simp) _
 by_cases h1:y<z
 · have C1:=hid (fun w=>zjv y z w h1 hz);by_cases g1:0<z - y - 1
   · by_cases h2:u<x
     · have C2:=hid (fun w=>zjv u x w h2 hx);by_cases g2:0<x - u - 1
       · have hr:=hid (show ju (x,y) (z,u)=2 from by simp[ju,h1,h2,g1,g2]);generalize ju (x,y) (z,u)=r at*;generalize z - y - 1=p at*;generalize x - u - 1=q at*;clear hx hz h1 h2;go_enter Tryz.func236,Tryz.ntmps236;go_wp2_with fail;refine(C1.out _).mono ?_;rintro e w1 ⟨rfl,rfl⟩;go_wp2_with fail;refine(C2.out _).mono ?_;rintro e w1 ⟨rfl,rfl⟩;go_wp2_with fail;go_ret;exact⟨zb6 (by rw[hr.out];rfl),hw⟩
       · have hr:=hid (show ju (x,y) (z,u)=1 from by simp[ju,h1,h2,g1,g2]);obtain e2:x - u - 1=0:=by omega
         rw[e2] at C2;clear e2 g2;generalize ju (x,y) (z,u)=r at*;generalize z - y - 1=p at*;clear hx hz h1 h2;go_enter Tryz.func236,Tryz.ntmps236;go_wp2_with fail;refine(C1.out _).mono ?_;rintro e w1 ⟨rfl,rfl⟩;go_wp2_with fail;refine(C2.out _).mono ?_;rintro e w1 ⟨rfl,rfl⟩;go_wp2_with fail;go_ret;exact⟨zb6 (by rw[hr.out];rfl),hw⟩
     · have C2:=hid (fun w=>znt u x w h2);have hr:=hid (show ju (x,y) (z,u)=0 from by simp[ju,h1,h2,g1]);generalize ju (x,y) (z,u)=r at*;generalize z - y - 1=p at*;clear hx hz h1 h2;go_enter Tryz.func236,Tryz.ntmps236;go_wp2_with fail;refine(C1.out _).mono ?_;rintro e w1 ⟨rfl,rfl⟩;go_wp2_with fail;refine(C2.out _).mono ?_;rintro e w1 ⟨rfl,rfl⟩;go_wp2_with fail;go_ret;exact⟨zb6 (by rw[hr.out];rfl),hw⟩
   · have e1:z - y - 1=0:=by omega
     rw[e1] at C1;clear e1;by_cases h2:u<x
     · have C2:=hid (fun w=>zjv u x w h2 hx);by_cases g2:0<x - u - 1
       · have hr:=hid (show ju (x,y) (z,u)=3 from by simp[ju,h1,h2,g1,g2]);generalize ju (x,y) (z,u)=r at*;generalize x - u - 1=q at*;clear hx hz h1 h2;go_enter Tryz.func236,Tryz.ntmps236;go_wp2_with fail;refine(C1.out _).mono ?_;rintro e w1 ⟨rfl,rfl⟩;go_wp2_with fail;refine(C2.out _).mono ?_;rintro e w1 ⟨rfl,rfl⟩;go_wp2_with fail;go_ret;exact⟨zb6 (by rw[hr.out];rfl),hw⟩
       · have hr:=hid (show ju (x,y) (z,u)=2 from by simp[ju,h1,h2,g1,g2]);obtain e2:x - u - 1=0:=by omega
         rw[e2] at C2;clear e2 g2;generalize ju (x,y) (z,u)=r at*;clear hx hz h1 h2;go_enter Tryz.func236,Tryz.ntmps236;go_wp2_with fail;refine(C1.out _).mono ?_;rintro e w1 ⟨rfl,rfl⟩;go_wp2_with fail;refine(C2.out _).mono ?_;rintro e w1 ⟨rfl,rfl⟩;go_wp2_with fail;go_ret;exact⟨zb6 (by rw[hr.out];rfl),hw⟩
     · have C2:=hid (fun w=>znt u x w h2);have hr:=hid (show ju (x,y) (z,u)=1 from by simp[ju,h1,h2,g1]);generalize ju (x,y) (z,u)=r at*;clear hx hz h1 h2;go_enter Tryz.func236,Tryz.ntmps236;go_wp2_with fail;refine(C1.out _).mono ?_;rintro e w1 ⟨rfl,rfl⟩;go_wp2_with fail;refine(C2.out _).mono ?_;rintro e w1 ⟨rfl,rfl⟩;go_wp2_with fail;go_ret;exact⟨zb6 (by rw[hr.out];rfl),hw⟩
 · have C1:=hid (fun w=>znt y z w h1);by_cases h2:u<x
   · have C2:=hid (fun w=>zjv u x w h2 hx);by_cases g2:0<x - u - 1
     · have hr:=hid (show ju (x,y) (z,u)=4 from by simp[ju,h1,h2,g2]);generalize ju (x,y) (z,u)=r at*;generalize x - u - 1=q at*;clear hx hz h1 h2;go_enter Tryz.func236,Tryz.ntmps236;go_wp2_with fail;refine(C1.out _).mono ?_;rintro e w1 ⟨rfl,rfl⟩;go_wp2_with fail;refine(C2.out _).mono ?_;rintro e w1 ⟨rfl,rfl⟩;go_wp2_with fail;go_ret;exact⟨zb6 (by rw[hr.out];rfl),hw⟩
     · have hr:=hid (show ju (x,y) (z,u)=3 from by simp[ju,h1,h2,g2]);obtain e2:x - u - 1=0:=by omega
       rw[e2] at C2;clear e2 g2;generalize ju (x,y) (z,u)=r at*;clear hx hz h1 h2;go_enter Tryz.func236,Tryz.ntmps236;go_wp2_with fail;refine(C1.out _).mono ?_;rintro e w1 ⟨rfl,rfl⟩;go_wp2_with fail;refine(C2.out _).mono ?_;rintro e w1 ⟨rfl,rfl⟩;go_wp2_with fail;go_ret;exact⟨zb6 (by rw[hr.out];rfl),hw⟩
   · have C2:=hid (fun w=>znt u x w h2);have hr:=hid (show ju (x,y) (z,u)=2 from by simp[ju,h1,h2]);generalize ju (x,y) (z,u)=r at*;clear hx hz h1 h2;go_enter Tryz.func236,Tryz.ntmps236;go_wp2_with fail;refine(C1.out _).mono ?_;rintro e w1 ⟨rfl,rfl⟩;go_wp2_with fail;refine(C2.out _).mono ?_;rintro e w1 ⟨rfl,rfl⟩;go_wp2_with fail;go_ret;exact⟨zb6 (by rw[hr.out];rfl),hw⟩
end
section
open Go.RowKit Go.Shelf
structure Kept (p:Nat→Prop) (A B:World):Prop where
 os:B.os=A.os
 tape:B.tape=A.tape
 output:B.output=A.output
 size:A.heap.size≤B.heap.size
 row:∀k,k<A.heap.size→p k→B.heap[k]?=A.heap[k]?
variable {p q:Nat→Prop} {A B C:World}
theorem Kept.refl (p:Nat→Prop) (A:World):Kept p A A:=⟨rfl,rfl,rfl,Nat.le_refl _,fun _ _ _=>rfl⟩
theorem Kept.trans (h:Kept p A B) (k:Kept p B C):Kept p A C:=
 ⟨k.os.trans h.os,k.tape.trans h.tape,k.output.trans h.output,Nat.le_trans h.size k.size,fun i hi hp=>(k.row i (Nat.lt_of_lt_of_le hi h.size) hp).trans (h.row i hi hp)⟩
theorem Kept.mono (h:Kept p A B) (hq:∀k,k<A.heap.size→q k→p k):Kept q A B:=⟨h.os,h.tape,h.output,h.size,fun i hi hp=>h.row i hi (hq i hi hp)⟩
theorem Kept.alloc (h:Kept p A B) (o:Obj):Kept p A (B.alloc o):=
 h.trans ⟨rfl,rfl,rfl,by simp,fun k hk _=>Below.heap_alloc _ _ _ hk⟩
theorem Kept.setCell (h:Kept p A B) {a:Addr} (ha:a.block<A.heap.size→¬p a.block) (u:Value):Kept p A (B.setCell a u):=
 ⟨h.os,h.tape,h.output,by simpa [World.setCell] using h.size,fun k hk hp=>(Below.heap_setCell _ _ _ _ (fun e=>by subst e;exact ha hk hp)).trans (h.row k hk hp)⟩
theorem Kept.putObj (h:Kept p A B) {r:Nat} (ha:r<A.heap.size→¬p r) (o:Obj):Kept p A (B.putObj r o):=
 ⟨h.os,h.tape,h.output,by simpa using h.size,fun k hk hp=>(World.putObj_heap_other (fun e=>by subst e;exact ha hk hp)).trans (h.row k hk hp)⟩
theorem Kept.below (h:Kept p A B) (hb:Below B.heap.size B C):Kept p A C:=
 h.trans ⟨hb.os,hb.tape,hb.output,hb.size,fun k hk _=>hb.block k hk⟩
theorem Kept.grown {row:Option Nat} (h:Kept p A B) (hg:B.grownBy C row) (hr:∀k,row=some k→k<A.heap.size→¬p k):Kept p A C:=
 ⟨hg.os.trans h.os,hg.tape.trans h.tape,hg.output.trans h.output,Nat.le_trans h.size hg.size,
  fun k hk hp=>(hg.block k (Nat.lt_of_lt_of_le hk h.size) (fun e=>hr k e.symm hk hp)).trans (h.row k hk hp)⟩
theorem Kept.drewN (h:Kept p A B) (n:Nat):Kept p A (B.drewN n):=⟨h.os,h.tape,h.output,h.size,h.row⟩
theorem Kept.drew (h:Kept p A B):Kept p A B.drew:=⟨h.os,h.tape,h.output,h.size,h.row⟩
theorem Kept.cell (h:Kept p A B) {a:Addr} {v:Value} (hc:A.cell? a=some v) (ha:p a.block):B.cell? a=some v:=
 (World.cell?_of_block (h.row a.block (zf hc) ha)).trans hc
theorem Kept.frozen (h:Kept p A B) {a:Addr} (hc:a.block<A.heap.size) (ha:p a.block):B.frozen? a=A.frozen? a:=
 World.frozen?_of_block (h.row a.block hc ha)
theorem zwp {n:Nat} (h:Below n A B):Kept (fun k=>k<n) A B:=⟨h.os,h.tape,h.output,h.size,fun k _ hk=>h.block k hk⟩
theorem Kept.toBelow {n:Nat} (h:Kept p A B) (hp:∀k,k<n→p k) (hn:n≤A.heap.size):Below n A B:=⟨h.os,h.tape,h.output,h.size,fun k hk=>h.row k (Nat.lt_of_lt_of_le hk hn) (hp k hk)⟩
end
section
open Go.RowKit Go.Shelf
attribute [local go_sem] Oper.semAt_some
def BoxI (w0 W:World) (b:Nat) (l:List Iv):Prop:=∃a n c,W.heap[b]?=some (.cells #[.slice a n c] 123)∧Ivs w0 a n c l
theorem zd6 {W:World} {b:Nat} {v u:Value} {t:TypeId} (h:W.heap[b]?=some (.cells #[v] t)):(W.setCell ⟨b,0,none⟩ u).heap[b]?=some (.cells #[u] t):=by
 simp[World.setCell,Array.getElem?_modify,h]
theorem ji {W:World} {b:Nat} {v:Value} {t:TypeId} (h:W.heap[b]?=some (.cells #[v] t)):W.cell? ⟨b,0,none⟩=some v:=by simp[World.cell?,h]
theorem zbx {W:World} {b:Nat} {v:Value} {t:TypeId} (h:W.heap[b]?=some (.cells #[v] t)):W.frozen? ⟨b,0,none⟩=false:=by simp[World.frozen?,h]
theorem BoxI.kept {w0 W W':World} {b:Nat} {l:List Iv} (h:BoxI w0 W b l) (hk:W'.heap[b]?=W.heap[b]?):BoxI w0 W' b l:=by
 obtain⟨a,n,c,h1,h2⟩:=h;exact⟨a,n,c,hk.trans h1,h2⟩
end
section
open Go.RowKit Go.Extern.Stop Go.Stop Go.Extern
theorem zcy (x:Err) (w:World) (hD:Door w):
 Calls Tryz.prog 31 #[zy x] w fun e w'=>e=.returned (.int .i64 (je x))∧Below w.heap.size w w':=by
 have hD':=hid (fun o=>hD.below (Nat.le_refl _) ((Below.refl _ w).alloc (Nat.le_refl _) o));clear hD;rcases x with _ | ⟨c,_ | a⟩
 · go_enter Tryz.func31,Tryz.ntmps31;simp only[zy];go_wp2_with fail;go_ret;exact⟨rfl,(Below.refl _ _).alloc (Nat.le_refl _) _⟩
 · go_enter Tryz.func31,Tryz.ntmps31;simp only[zy];go_wp2_with fail;refine zno _ _ _ _ (hD'.out _) (by simp) _ ?_;intro w1 A hb hA hAs;have hb2:Below w.heap.size w w1:=((Below.refl _ _).alloc (Nat.le_refl _) _).trans (hb.mono (by simp));have hc:w1.cell? ⟨w.heap.size,0,none⟩=some (.int .i64 0):=by rw[hb.cell (p:=⟨w.heap.size,0,none⟩) (by simp)];simp
   have hf:w1.frozen? ⟨w.heap.size,0,none⟩=false:=by rw[hb.frozen (p:=⟨w.heap.size,0,none⟩) (by simp)];simp
   refine(z8t c ⟨w.heap.size,0,none⟩ A _ w1 hA hc hf).mono ?_;rintro e w2 ⟨rfl,hg,hc2⟩;refine⟨true,rfl,?_⟩;have hb3:=zis hb2 (Nat.le_refl _) hg;clear hg hc hf hb hb2 hA hAs;go_wp2_with fail;go_ret;exact⟨rfl,hb3⟩
 · go_enter Tryz.func31,Tryz.ntmps31;simp only[zy];go_wp2_with fail;refine zno _ _ _ _ (hD'.out _) (by simp) _ ?_;intro w1 A hb hA hAs;have hb2:Below w.heap.size w w1:=((Below.refl _ _).alloc (Nat.le_refl _) _).trans (hb.mono (by simp));have hc:w1.cell? ⟨w.heap.size,0,none⟩=some (.int .i64 0):=by rw[hb.cell (p:=⟨w.heap.size,0,none⟩) (by simp)];simp
   have hf:w1.frozen? ⟨w.heap.size,0,none⟩=false:=by rw[hb.frozen (p:=⟨w.heap.size,0,none⟩) (by simp)];simp
   refine(z8u c a ⟨w.heap.size,0,none⟩ A _ w1 hA hc hf).mono ?_;rintro e w2 ⟨rfl,hg,hc2⟩;refine⟨true,rfl,?_⟩;have hb3:=zis hb2 (Nat.le_refl _) hg;clear hg hc hf hb hb2 hA hAs;go_wp2_with fail;go_ret;exact⟨rfl,hb3⟩
theorem zaf (c a:Int) (w:World):
 Calls Tryz.prog 64 #[.int .i64 c,.int .i64 a] w fun e w'=>e=.returned (zy (zfr c a))∧w=w':=by
 by_cases h:c=0
 · subst h;go_enter Tryz.func64,Tryz.ntmps64;go_wp2;go_ret;exact⟨rfl,rfl⟩
 · have hb:(c == 0)=false:=by rw[beq_eq_false_iff_ne];exact h
   have he:=hid (show zfr c a=some (c,some a) from if_neg h);clear h;go_enter Tryz.func64,Tryz.ntmps64;go_wp2;go_ret;exact⟨by rw[he.out];rfl,rfl⟩
theorem z8y (w:World):
 Calls Tryz.prog 65 #[.nilIface] w fun e w'=>e=.returned (.tuple #[.agg #[.int .i64 0,.int .i64 0],.bool false])∧Below w.heap.size w w':=by
 go_enter Tryz.func65,Tryz.ntmps65;go_wp2_with fail;refine(z8v _ _).mono ?_;rintro e w' ⟨rfl,rfl⟩;go_wp2_with fail;exact bodyPost_ret (v:=.tuple #[.agg #[.int .i64 0,.int .i64 0],.bool false]) (by simp[results,Tryz.results65,go_sem]) rfl ⟨rfl,((Below.refl _ _).alloc (Nat.le_refl _) _).alloc (by simp) _⟩
theorem z8z (c:Int) (w:World) (hD:Door w):
 Calls Tryz.prog 65 #[.iface 27 (.int .i64 c)] w fun e w'=>e=.returned (.tuple #[.agg #[.int .i64 0,.int .i64 0],.bool false])∧Below w.heap.size w w':=by
 have hD':=hid (fun o1 o2=>hD.below (Nat.le_refl _) (((Below.refl _ w).alloc (Nat.le_refl _) o1).alloc (by simp) o2));clear hD;go_enter Tryz.func65,Tryz.ntmps65;go_wp2_with fail;refine znp _ _ _ _ (hD'.out _ _) (by simp) _ ?_;intro w1 A hb hA hAs;have hb2:Below w.heap.size w w1:=(((Below.refl _ _).alloc (Nat.le_refl _) _).alloc (by simp) _).trans (hb.mono (by simp;omega));have hz:=hb.size;have hc0:w1.cell? ⟨w.heap.size+1,0,none⟩=some (.int .i64 0):=by rw[hb.cell (p:=⟨w.heap.size+1,0,none⟩) (by simp)];go_simp
 have hc1:w1.cell? ⟨w.heap.size+1,1,none⟩=some (.int .i64 0):=by rw[hb.cell (p:=⟨w.heap.size+1,1,none⟩) (by simp)];go_simp
 have hr0:w1.cell? ⟨w.heap.size,0,none⟩=some (.int .i64 0):=by rw[hb.cell (p:=⟨w.heap.size,0,none⟩) (by simp;omega)];go_simp
 have hr1:w1.cell? ⟨w.heap.size,1,none⟩=some (.int .i64 0):=by rw[hb.cell (p:=⟨w.heap.size,1,none⟩) (by simp;omega)];go_simp
 have hf0:w1.frozen? ⟨w.heap.size,0,none⟩=false:=by rw[hb.frozen (p:=⟨w.heap.size,0,none⟩) (by simp;omega)];go_simp
 have hf1:w1.frozen? ⟨w.heap.size,1,none⟩=false:=by rw[hb.frozen (p:=⟨w.heap.size,1,none⟩) (by simp;omega)];go_simp
 refine(z8s c (w.heap.size+1) A w1).mono ?_;rintro e w2 ⟨rfl,hg⟩;refine⟨false,rfl,?_⟩;have hb3:=zfs hb2 hg;have keep:∀p:Addr,p.block<w1.heap.size→w2.cell? p=w1.cell? p:=fun p hp=>World.cell?_of_block (hg.block _ hp (by simp))
 have kfree:∀p:Addr,p.block<w1.heap.size→w2.frozen? p=w1.frozen? p:=fun p hp=>World.frozen?_of_block (hg.block _ hp (by simp))
 have hc0':=(keep ⟨w.heap.size+1,0,none⟩ (zf hc0)).trans hc0;have hc1':=(keep ⟨w.heap.size+1,1,none⟩ (zf hc1)).trans hc1;have hr0':=(keep ⟨w.heap.size,0,none⟩ (zf hr0)).trans hr0;have hr1':=(keep ⟨w.heap.size,1,none⟩ (zf hr1)).trans hr1;have hf0':=(kfree ⟨w.heap.size,0,none⟩ (zf hr0)).trans hf0;have hf1':=(kfree ⟨w.heap.size,1,none⟩ (zf hr1)).trans hf1;clear keep kfree hg hc0 hc1 hr0 hr1 hf0 hf1 hb hb2 hA hAs hz;go_wp2_with fail;exact bodyPost_ret (v:=.tuple #[.agg #[.int .i64 0,.int .i64 0],.bool false]) (by simp[results,Tryz.results65,go_sem,hr0',hr1']) rfl ⟨rfl,(hb3.setCell (p:=⟨w.heap.size,0,none⟩) (Nat.le_refl _) _).setCell (p:=⟨w.heap.size,1,none⟩) (Nat.le_refl _) _⟩
theorem zwq (c a:Int) (w:World) (hD:Door w):
 Calls Tryz.prog 65 #[.iface 110 (.agg #[.int .i64 c,.int .i64 a])] w fun e w'=>e=.returned (.tuple #[.agg #[.int .i64 c,.int .i64 a],.bool true])∧Below w.heap.size w w':=by
 have hD':=hid (fun o1 o2=>hD.below (Nat.le_refl _) (((Below.refl _ w).alloc (Nat.le_refl _) o1).alloc (by simp) o2));clear hD;go_enter Tryz.func65,Tryz.ntmps65;go_wp2_with fail;refine znp _ _ _ _ (hD'.out _ _) (by simp) _ ?_;intro w1 A hb hA hAs;have hb2:Below w.heap.size w w1:=(((Below.refl _ _).alloc (Nat.le_refl _) _).alloc (by simp) _).trans (hb.mono (by simp;omega));have hz:=hb.size;have hc0:w1.cell? ⟨w.heap.size+1,0,none⟩=some (.int .i64 0):=by rw[hb.cell (p:=⟨w.heap.size+1,0,none⟩) (by simp)];go_simp
 have hc1:w1.cell? ⟨w.heap.size+1,1,none⟩=some (.int .i64 0):=by rw[hb.cell (p:=⟨w.heap.size+1,1,none⟩) (by simp)];go_simp
 have hg0:w1.frozen? ⟨w.heap.size+1,0,none⟩=false:=by rw[hb.frozen (p:=⟨w.heap.size+1,0,none⟩) (by simp)];go_simp
 have hg1:w1.frozen? ⟨w.heap.size+1,1,none⟩=false:=by rw[hb.frozen (p:=⟨w.heap.size+1,1,none⟩) (by simp)];go_simp
 have hr0:w1.cell? ⟨w.heap.size,0,none⟩=some (.int .i64 0):=by rw[hb.cell (p:=⟨w.heap.size,0,none⟩) (by simp;omega)];go_simp
 have hr1:w1.cell? ⟨w.heap.size,1,none⟩=some (.int .i64 0):=by rw[hb.cell (p:=⟨w.heap.size,1,none⟩) (by simp;omega)];go_simp
 have hf0:w1.frozen? ⟨w.heap.size,0,none⟩=false:=by rw[hb.frozen (p:=⟨w.heap.size,0,none⟩) (by simp;omega)];go_simp
 have hf1:w1.frozen? ⟨w.heap.size,1,none⟩=false:=by rw[hb.frozen (p:=⟨w.heap.size,1,none⟩) (by simp;omega)];go_simp
 refine(z8r c a (w.heap.size+1) A _ _ w1 hA hc0 hc1 hg0 hg1).mono ?_;rintro e w2 ⟨rfl,hg,hc0',hc1'⟩;refine⟨true,rfl,?_⟩;have hb3:=zis hb2 (by omega) hg;have keep:∀p:Addr,p.block<w1.heap.size→p.block≠w.heap.size+1→w2.cell? p=w1.cell? p:=fun p hp hne=>World.cell?_of_block (hg.block _ hp (by simpa using hne))
 have kfree:∀p:Addr,p.block<w1.heap.size→p.block≠w.heap.size+1→w2.frozen? p=w1.frozen? p:=fun p hp hne=>World.frozen?_of_block (hg.block _ hp (by simpa using hne))
 have hr0':=(keep ⟨w.heap.size,0,none⟩ (zf hr0) (by simp)).trans hr0;have hr1':=(keep ⟨w.heap.size,1,none⟩ (zf hr1) (by simp)).trans hr1;have hf0':=(kfree ⟨w.heap.size,0,none⟩ (zf hr0) (by simp)).trans hf0;have hf1':=(kfree ⟨w.heap.size,1,none⟩ (zf hr1) (by simp)).trans hf1;clear keep kfree hg hg0 hg1 hc0 hc1 hr0 hr1 hf0 hf1 hb hb2 hA hAs hz;go_wp2_with fail;exact bodyPost_ret (v:=.tuple #[.agg #[.int .i64 c,.int .i64 a],.bool true]) (by simp[results,Tryz.results65,go_sem,hr0',hr1']) rfl ⟨rfl,(hb3.setCell (p:=⟨w.heap.size,0,none⟩) (Nat.le_refl _) _).setCell (p:=⟨w.heap.size,1,none⟩) (Nat.le_refl _) _⟩
theorem zjw (x:Err) (w:World) (hD:Door w):
 Calls Tryz.prog 23 #[zy x] w fun e w'=>e=.returned (.int .i64 (j9 x))∧Below w.heap.size w w':=by
 rcases x with _ | ⟨c,_ | a⟩
 · go_enter Tryz.func23,Tryz.ntmps23;simp only[zy];go_wp2_with fail;refine(z8y _).mono ?_;rintro e w1 ⟨rfl,hb⟩;go_wp2_with fail;go_ret;exact⟨rfl,hb.alloc hb.size _⟩
 · go_enter Tryz.func23,Tryz.ntmps23;simp only[zy];go_wp2_with fail;refine(z8z _ _ hD).mono ?_;rintro e w1 ⟨rfl,hb⟩;go_wp2_with fail;go_ret;exact⟨rfl,hb.alloc hb.size _⟩
 · go_enter Tryz.func23,Tryz.ntmps23;simp only[zy];go_wp2_with fail;refine(zwq _ _ _ hD).mono ?_;rintro e w1 ⟨rfl,hb⟩;go_wp2_with fail;go_ret;exact⟨rfl,hb.alloc hb.size _⟩
end
section
open Go.RowKit
def zb7 (s:Iv) (x:Nat):Int:=if s.2<x then -1 else if x<s.1 then 1 else 0
theorem zwr (s:Iv) (x:Nat) (w:World):
 Calls Tryz.prog 315 #[ivV s,.int .u64 x] w fun e w'=>e=.returned (.int .i64 (zb7 s x))∧Below w.heap.size w w':=by
 obtain⟨a,b⟩:=s;have hb:=(Below.refl w.heap.size w).alloc (Nat.le_refl _) (.cells #[.int .u64 a,.int .u64 b] 135);by_cases h1:b<x
 · have Hr:=hid (show zb7 (a,b) x= -1 from by simp[zb7,h1]);generalize zb7 (a,b) x=r at*;go_enter Tryz.func315,Tryz.ntmps315;go_wp2;go_ret;exact⟨zb6 Hr.out.symm,hb⟩
 · by_cases h2:x<a
   · have Hr:=hid (show zb7 (a,b) x=1 from by simp[zb7,h1,h2]);generalize zb7 (a,b) x=r at*;go_enter Tryz.func315,Tryz.ntmps315;go_wp2;go_ret;exact⟨zb6 Hr.out.symm,hb⟩
   · have Hr:=hid (show zb7 (a,b) x=0 from by simp[zb7,h1,h2]);generalize zb7 (a,b) x=r at*;go_enter Tryz.func315,Tryz.ntmps315;go_wp2;go_ret;exact⟨zb6 Hr.out.symm,hb⟩
def fnd (l:List Iv) (x:Nat):Nat:=(l.takeWhile fun s=>decide (s.2<x)).length
theorem zws:∀{l:List Iv} {x i:Nat},i≤l.length→(∀t,t<i→(zb l t).2<x)→(∀t,i≤t→t<l.length→¬(zb l t).2<x)→fnd l x=i
 | [],x,i,hi,_,_=>by simp at hi;subst hi;rfl
 | s :: l,x,i,hi,h1,h2=>by
   cases i with
   | zero=>
    have:=h2 0 (by omega) (by simp);have e:¬s.2<x:=this
    simp[fnd,e]
   | succ i=>
    have e:s.2<x:=h1 0 (by omega);have:=zws (l:=l) (x:=x) (i:=i) (by simpa using hi) (fun t ht=>h1 (t+1) (by omega)) (fun t ht htl=>h2 (t+1) (by omega) (by simpa using htl));unfold fnd at this ⊢;rw[List.takeWhile_cons,if_pos (by simpa using e)];simpa using this
theorem zjx {l:List Iv} (h:Good l) {i j:Nat} (hij:i<j) (hj:j<l.length):(zb l i).2+1<(zb l j).1:=by
 induction j with
 | zero=>omega
 | succ j ih=>
  have h1:=(zel h (j+1) hj).2 (by omega);rw[Nat.add_sub_cancel] at h1;by_cases e:i=j
  · subst e;exact h1
  · have:=ih (by omega) (by omega);have:=(zel h j (by omega)).1;omega
theorem z80 {l:List Iv} (h:Good l) {x i:Nat} (hi:i≤l.length) (h1:∀t,t<i→(zb l t).2<x) (h2:∀t,i≤t→t<l.length→¬(zb l t).2<x):
 mem l x=(decide (i<l.length) && decide ((zb l i).1≤x)):=by
 rw[Bool.eq_iff_iff,mem_iff];simp only[Bool.and_eq_true,decide_eq_true_iff];constructor
 · rintro⟨s,hs,k1,k2⟩;obtain⟨t,ht,rfl⟩:=List.getElem_of_mem hs;rw[←jg ht] at k1 k2
   have:i≤t:=by
    refine Nat.le_of_not_lt fun hlt=>?_
    have:=h1 t hlt;omega
   refine⟨by omega,?_⟩;by_cases e:i=t
   · subst e;exact k1
   · have:=zjx h (i:=i) (j:=t) (by omega) ht;have:=(zel h i (by omega)).1;omega
 · rintro⟨k1,k2⟩;exact⟨zb l i,zbo k1,k2,by have:=h2 i (Nat.le_refl _) k1;omega⟩
set_option maxRecDepth 20000 in
theorem z81 (a:Option Addr) (n cap x:Nat) (l:List Iv) (w:World) (hI:Ivs w a n cap l) (hG:Good l) (hn:n≤1000000):
 Calls Tryz.prog 314 #[.slice a n cap,.int .u64 x,.func (.func 315) #[] #[]] w fun e w'=>
  e=.returned (.tuple #[.int .i64 ((fnd l x:Nat):Int),.bool (mem l x)])∧Below w.heap.size w w':=by
 have HI:=hid hI;have HG:=hid hG;have Hl:=hid hI.len;clear hI hG;go_enter Tryz.func314,Tryz.ntmps314;go_wp2;go_loopw [9,10,11] (fun i j _ wr=>∃p q:Nat,p≤q∧q≤n∧i=.int .i64 p∧j=.int .i64 q∧Below w.heap.size w wr∧Hid ((∀t,t<p→(zb l t).2<x)∧∀t,q≤t→t<n→¬(zb l t).2<x)) (fun i j _ _=>(intOf j).toNat - (intOf i).toNat)
 case atStart=>exact⟨0,n,by omega,by omega,rfl,rfl,Below.refl _ _,fun t ht=>by omega,fun t h1 h2=>by omega⟩
 case round=>
  obtain⟨p,q,hpq,hqn,rfl,rfl,hb,ht⟩:=hrel;have Hb:=hid hb;clear hb;by_cases hlt:p<q
  · obtain⟨bb,oo,rfl,hcell⟩:=(HI.out.below Hb.out).cells (by omega);obtain⟨h,hh,hph,hhq⟩:∃h:Nat,((p:Int)+(q:Int)) / 2=(h:Int)∧p≤h∧h<q:=⟨(p+q) / 2,by omega,by omega,by omega⟩;have hhn:h<n:=by omega
    obtain⟨hc1,hc2⟩:=hcell h hhn;clear hcell;have hC:=hid (fun w=>zwr (zb l h) x w);have Hms:=hid (fun t (ht:t<h)=>zjx HG.out ht (by rw[Hl.out];exact hhn));have Hms2:=hid (fun t (ht:h<t) (htl:t<n)=>zjx HG.out ht (by rw[Hl.out];exact htl));have Hok:=hid (fun t (ht:t<n)=>(zel HG.out t (by rw[Hl.out];exact ht)).1);by_cases hlx:(zb l h).2<x
    · have Hlx:=hid hlx;rw[show zb7 (zb l h) x= -1 from by simp[zb7,hlx]] at hC;clear hlx
      have Hr:=hid (show ∀t,t<h+1→(zb l t).2<x from by
       intro t htt;by_cases e:t=h
       · subst e;exact Hlx.out
       · have h1:=Hms.out t (by omega);have h2:=Hok.out h hhn;have h3:=Hlx.out;omega)
      generalize zb l h=s at*;go_wp2_with fail;refine(hC.out _).mono ?_;rintro e w1 ⟨rfl,hb1⟩;have Hb1:=hid (Hb.out.trans (hb1.mono Hb.out.size));clear hb1;clear hc1 hc2 hh;go_wp2_with fail;go_roundw
      case rel=>exact⟨h+1,q,by omega,by omega,by go_num,rfl,Hb1.out,Hr.out,ht.out.2⟩
      case measure=>simp[intOf];omega
    · have Hr:=hid (show ∀t,h≤t→t<n→¬(zb l t).2<x from by
       intro t htt htn;by_cases e:t=h
       · subst e;exact hlx
       · have h1:=Hms2.out t (by omega) htn;have h2:=Hok.out t htn;omega)
      have hcv:0≤zb7 (zb l h) x:=by unfold zb7;rw[if_neg hlx];split <;> omega
      generalize zb7 (zb l h) x=cv at*;generalize zb l h=s at*;clear hlx;go_wp2_with fail;refine(hC.out _).mono ?_;rintro e w1 ⟨rfl,hb1⟩;have Hb1:=hid (Hb.out.trans (hb1.mono Hb.out.size));clear hb1;clear hc1 hc2 hh;go_wp2_with fail;go_roundw
      case rel=>exact⟨p,h,by omega,by omega,rfl,rfl,Hb1.out,ht.out.1,Hr.out⟩
      case measure=>simp[intOf];omega
  · obtain rfl:p=q:=by omega
    have Hf:=hid (zws (l:=l) (x:=x) (i:=p) (by rw[Hl.out];exact hqn) ht.out.1 (fun t h1 h2=>ht.out.2 t h1 (by rw[←Hl.out];exact h2)));have Hm:=hid (z80 HG.out (x:=x) (i:=p) (by rw[Hl.out];exact hqn) ht.out.1 (fun t h1 h2=>ht.out.2 t h1 (by rw[←Hl.out];exact h2)));rw[Hl.out] at Hm;by_cases hpn:p<n
    · obtain⟨bb,oo,rfl,hcell⟩:=(HI.out.below Hb.out).cells (by omega);obtain⟨hc1,hc2⟩:=hcell p hpn;clear hcell;have hC:=hid (fun w=>zwr (zb l p) x w);have hnl:=ht.out.2 p (Nat.le_refl _) hpn;rw[decide_eq_true hpn,Bool.true_and] at Hm;by_cases hxs:(zb l p).1≤x
      · rw[decide_eq_true hxs] at Hm;rw[show zb7 (zb l p) x=0 from by unfold zb7;rw[if_neg hnl,if_neg (by omega)]] at hC;generalize zb l p=s at*;clear hnl hxs;go_wp2_with fail;refine(hC.out _).mono ?_;rintro e w1 ⟨rfl,hb1⟩;have Hb1:=hid (Hb.out.trans (hb1.mono Hb.out.size));clear hb1;clear hc1 hc2;go_wp2_with fail;go_ret2;exact⟨by rw[Hf.out,Hm.out];rfl,Hb1.out⟩
      · rw[decide_eq_false hxs] at Hm;rw[show zb7 (zb l p) x=1 from by unfold zb7;rw[if_neg hnl,if_pos (by omega)]] at hC;generalize zb l p=s at*;clear hnl hxs;go_wp2_with fail;refine(hC.out _).mono ?_;rintro e w1 ⟨rfl,hb1⟩;have Hb1:=hid (Hb.out.trans (hb1.mono Hb.out.size));clear hb1;clear hc1 hc2;go_wp2_with fail;go_ret2;exact⟨by rw[Hf.out,Hm.out];rfl,Hb1.out⟩
    · obtain rfl:p=n:=by omega
      rw[decide_eq_false hpn,Bool.false_and] at Hm;have hd:decide ((p:Int)<(p:Int))=false:=by simp
      go_wp2_with fail;go_ret2;exact⟨by rw[Hf.out,Hm.out];rfl,Hb.out⟩
def zjy (l:List Iv) (x:Nat):Int:=if mem l x=true then ((fnd l x:Nat):Int) else -1
theorem z82 (a:Option Addr) (n cap x:Nat) (l:List Iv) (w:World) (hI:Ivs w a n cap l) (hG:Good l) (hn:n≤1000000):
 Calls Tryz.prog 290 #[.slice a n cap,.int .u64 x] w fun e w'=>e=.returned (.int .i64 (zjy l x))∧Below w.heap.size w w':=by
 have hC:=hid (z81 a n cap x l w hI hG hn);clear hI hG;unfold zjy
 cases hm:mem l x with
 | true=>
  rw[hm] at hC;rw[if_pos rfl];clear hm;generalize fnd l x=f at*;go_enter Tryz.func290,Tryz.ntmps290;go_wp2_with fail;refine hC.out.mono ?_;rintro e w1 ⟨rfl,hb1⟩;go_wp2;go_ret
  exact⟨rfl,hb1⟩
 | false=>
  rw[hm] at hC;rw[if_neg (by simp)];clear hm;generalize fnd l x=f at*;go_enter Tryz.func290,Tryz.ntmps290;go_wp2_with fail;refine hC.out.mono ?_;rintro e w1 ⟨rfl,hb1⟩;go_wp2;go_ret;exact⟨rfl,hb1⟩
theorem zrm (a:Option Addr) (n cap x:Nat) (l:List Iv) (w:World) (hI:Ivs w a n cap l) (hG:Good l) (hn:n≤1000000):
 Calls Tryz.prog 244 #[.slice a n cap,.int .u64 x] w fun e w'=>e=.returned (.bool (mem l x))∧Below w.heap.size w w':=by
 have hC:=hid (z82 a n cap x l w hI hG hn);clear hI hG
 cases h:mem l x with
 | true=>
  have hd:zjy l x=((fnd l x:Nat):Int):=by unfold zjy;rw[if_pos h]
  rw[hd] at hC;clear h hd;generalize fnd l x=f at*;have hd:decide (0≤(f:Int))=true:=by rw[decide_eq_true_iff];omega
  go_enter Tryz.func244,Tryz.ntmps244;go_wp2_with fail;refine hC.out.mono ?_;rintro e w1 ⟨rfl,hb1⟩;go_wp2;go_ret
  exact⟨zd5 (by simp),hb1⟩
 | false=>
  have hd:zjy l x= -1:=by unfold zjy;rw[if_neg (by rw[h];simp)]
  rw[hd] at hC;clear h hd;go_enter Tryz.func244,Tryz.ntmps244;go_wp2_with fail;refine hC.out.mono ?_;rintro e w1 ⟨rfl,hb1⟩;go_wp2;go_ret;exact⟨zd5 (by simp),hb1⟩
def qi (l:List Nat):List Value:=l.map fun x=>Value.int .i64 ((x:Nat):Int)
theorem zla (a b:List Nat):qi (a++b)=qi a++qi b:=by simp[qi]
theorem zwt (l:List Nat):∀u∈qi l,u.oneCell'=true:=by
 intro u hu;simp only[qi,List.mem_map] at hu;obtain⟨x,_,rfl⟩:=hu
 rfl
structure I64s (w:World) (a:Option Addr) (n cap:Nat) (l:List Nat):Prop where
 len:l.length=n
 room:n≤cap
 most:cap≤9223372036854775807
 nilc:a=none→cap=0
 cells:0<n→∃b o,a=some ⟨b,o,none⟩∧∀i,i<n→w.cell? ⟨b,o+i,none⟩=some (.int .i64 ((nth l i:Nat):Int))
theorem I64s.below {w w':World} {a:Option Addr} {n cap:Nat} {l:List Nat} (h:I64s w a n cap l) (hb:Below w.heap.size w w'):I64s w' a n cap l:=by
 refine⟨h.len,h.room,h.most,h.nilc,fun hn=>?_⟩;obtain⟨b,o,ha,hc⟩:=h.cells hn;refine⟨b,o,ha,fun i hi=>?_⟩;have:=hc i hi;exact(hb.cell (p:=⟨b,o+i,none⟩) (zf this)).trans this
theorem Tryz.info_int:(Tryz.prog.info? 3).map (fun i=>(i.zero,i.size,i.bytes))=some (some (.int .i64 0),1,8):=by kernel_rfl
theorem zwu {w:World} (base:Nat) (v:Value) (n:Nat) (xs:List Nat) (hown:w.ownsRow base 3 1 v n (qi xs)) (A:Option Addr) (m c:Nat) (l:List Nat) (hr:Rd w 1 A m (qi l)) (hb:n+m≤1000000) (hbase:base≤w.heap.size):
 ∃v' w',(Builtin.append_ #[79,79] 79 #[v,.slice A m c]).run Tryz.prog w=.ok v' w'∧w'.ownsRow base 3 1 v' (n+m) (qi (xs++l))∧w.grownBy w' v.ownBlock:=by
 rw[zla];exact zcf base _ _ _ _ 1 8 Tryz.underlying79 Tryz.info_int rfl (by omega) v n _ hown A m c _ hr (zwt l) (by unfold maxLen;omega) (by omega) hbase
theorem zwv {w:World} {ops:Array Oper} {rest:List Oper} {o:Oper} {a:Act} {Q:Exit→Act→World→Prop} (hgd:o.guard=none) (s x:Operand)
 (ho:o.op=.call { callee:=.builtin .append,args:= #[s,x],argTypes:= #[79,79] }) (hty:o.type=79)
 (base:Nat) (v:Value) (n:Nat) (xs:List Nat) (hs:a.eval s=v) (hown:w.ownsRow base 3 1 v n (qi xs)) (A:Option Addr) (m c:Nat) (l:List Nat) (hx:a.eval x=.slice A m c) (hr:Rd w 1 A m (qi l)) (hb:n+m≤1000000) (hbase:base≤w.heap.size)
 (h:∀v' w',w'.ownsRow base 3 1 v' (n+m) (qi (xs++l))→w.grownBy w' v.ownBlock→wpList Tryz.prog ops Q rest (a.put o.dst v') w'):wpList Tryz.prog ops Q (o :: rest) a w:=by
 obtain⟨v',w',hrun,h1,h2⟩:=zwu base v n xs hown A m c l hr hb hbase;exact qf _ _ _ ho (by simp[Region.wanted,hgd]) _ _ hs hx v' w' (by rw[hty];exact hrun) (h v' w' h1 h2)
