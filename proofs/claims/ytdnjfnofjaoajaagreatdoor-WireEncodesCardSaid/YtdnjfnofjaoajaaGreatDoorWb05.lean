/- Walks and laws, joined: Wb05. -/
import Derived.Test.YtdnjfnofjaoajaaGreatDoorWb03
import Derived.Test.YtdnjfnofjaoajaaGreatDoorWb04
set_option linter.unusedVariables false
set_option maxHeartbeats 16000000
namespace Go.Proofs.YtdnjfnofjaoajaaGreatDoor
open Lib (hid)
section
open Go.RowKit
def Rd (w:World) (sz:Nat) (A:Option Addr) (n:Nat) (xs:List Value):Prop:=
 xs.length=n*sz∧(0<n→∃b o,A=some ⟨b,o,none⟩∧∀j u,xs[j]?=some u→w.cell? ⟨b,o+j,none⟩=some u)
theorem Rd.below {w w':World} {sz n:Nat} {A:Option Addr} {xs:List Value} (h:Rd w sz A n xs) (hb:Below w.heap.size w w'):Rd w' sz A n xs:=
 ⟨h.1,fun hn=>by
  obtain⟨b,o,e,hc⟩:=h.2 hn;refine⟨b,o,e,fun j u hu=>?_⟩;have:=hc j u hu;exact(hb.cell (p:=⟨b,o+j,none⟩) (ze this)).trans this⟩
theorem Rd.own {w:World} {base sz n c:Nat} {e:TypeId} {A:Option Addr} {xs:List Value} (h:w.ownsRow base e sz (.slice A n c) n xs):Rd w sz A n xs:=by
 refine⟨h.1,fun hn=>?_⟩;obtain⟨g,cap,hv,_,hlt⟩:=h.form hn;have hA:A=some ⟨g,0,none⟩:=by injection hv
 subst hA;refine⟨g,0,rfl,fun j u hu=>?_⟩;have:=h.cells (g:=g) rfl j u hu;rwa [yp] at this
theorem Rd.news {w:World} {sz n:Nat} {x:Addr} {xs:List Value} (h:Rd w sz (some x) n xs) (hz:0<sz):∀j u,xs[j]?=some u→w.cell? (x.add j)=some u:=by
 intro j u hu
 have hn:0<n:=by
  refine Nat.pos_of_ne_zero fun h0=>?_
  subst h0;have:xs=[]:=List.eq_nil_of_length_eq_zero (by simpa using h.1);rw[this] at hu;simp at hu
 obtain⟨b,o,e,hc⟩:=h.2 hn;cases e;rw[yp];exact hc j u hu
theorem zzx {P:Program} (w:World) (base:Nat) (t ty e:TypeId) (i:TypeInfo) (size:Nat) (ht:P.underlying t=some (.slice e)) (hi:P.info? e=some i)
 (v:Value) (n:Nat) (xs:List Value) (hown:w.ownsRow base e size v n xs) (c:Nat):(Builtin.append_ #[t,t] ty #[v,.slice none 0 c]).run P w=.ok v w:=by
 rcases hown.2 with ⟨rfl,rfl⟩ | ⟨g,cap,cur,rfl,_,_,hnc,_⟩
 · simp[Builtin.append_,run_underlying ht,sizeOf,typeInfo,hi,Builtin.lenOf,Builtin.firstCells]
 · simp[Builtin.append_,run_underlying ht,sizeOf,typeInfo,hi,Builtin.lenOf,Builtin.firstCells,hnc,storeCells]
theorem zcp {P:Program} {w:World} (base:Nat) (t ty e:TypeId) (z:Value) (size bytes:Nat) (ht:P.underlying t=some (.slice e))
 (hinfo:(P.info? e).map (fun i=>(i.zero,i.size,i.bytes))=some (some z,size,bytes)) (hzs:z.cells.size=size) (hsz:0<size)
 (v:Value) (n:Nat) (xs:List Value) (hown:w.ownsRow base e size v n xs) (A:Option Addr) (m c:Nat) (news:List Value) (hr:Rd w size A m news) (h1:∀u∈news,u.oneCell'=true)
 (hlen:n+m≤maxLen) (hbytes:(n+m)*bytes≤140737488355328) (hbase:base≤w.heap.size):
 ∃v' w',(Builtin.append_ #[t,t] ty #[v,.slice A m c]).run P w=.ok v' w'∧w'.ownsRow base e size v' (n+m) (xs++news)∧w.grownBy w' v.ownBlock:=by
 obtain⟨i,hi,hz,hs,hby⟩:=info_parts hinfo;rcases A with _ | x
 · have hm:m=0:=by
    rcases Nat.eq_zero_or_pos m with h0 | h0
    · exact h0
    · obtain⟨b,o,h,_⟩:=hr.2 h0;cases h
   subst hm;have hn:news=[]:=List.eq_nil_of_length_eq_zero (by simpa using hr.1);subst hn;exact⟨v,w,zzx w base t ty e i size ht hi v n xs hown c,by simpa using hown,World.grownBy.refl w _⟩
 · obtain⟨v',w',hrun,ho,hg,_⟩:=run_append_own (P:=P) w base t ty e i z size bytes ht hi hz hs hby hzs hsz v n xs hown x m c news hr.1 (hr.news hsz) h1 hlen hbytes hbase;exact⟨v',w',hrun,ho,hg⟩
theorem zem {P:Program} {w:World} {ops:Array Oper} {o:Oper} {a:Act} {K:Act→World→Prop} {Q:Exit→Act→World→Prop} {E:Prop} (hgd:o.guard=none) (s x:Operand) (t:TypeId)
 (ho:o.op=.call { callee:=.builtin .append,args:= #[s,x],argTypes:= #[t,t] })
 (v u:Value) (hs:a.eval s=v) (hx:a.eval x=u) (v':Value) (w':World) (hrun:(Builtin.append_ #[t,t] o.type #[v,u]).run P w=.ok v' w')
 (h:K (a.put o.dst v') w'):if Region.wanted o (yielded ops a.tmps)=true then Oper.wp P o a w K Q else E:=by
 have hw:Region.wanted o (yielded ops a.tmps)=true:=by simp[Region.wanted,hgd]
 rw[if_pos hw];unfold Oper.wp;simp[execOp,ho,resolve,invoke,builtin,hs,hx,hrun,Result.andThen];exact h
structure U64s (w:World) (a:Option Addr) (n cap:Nat) (l:List Nat):Prop where
 len:l.length=n
 lt:∀x∈l,x<18446744073709551616
 room:n≤cap
 most:cap≤9223372036854775807
 nilc:a=none→cap=0
 cells:0<n→∃b o,a=some ⟨b,o,none⟩∧∀i,i<n→w.cell? ⟨b,o+i,none⟩=some (.int .u64 ((nth l i:Nat):Int))
def zi (l:List Nat):List Value:=l.map fun x=>Value.int .u64 ((x:Nat):Int)
theorem zmt (a b:List Nat):zi (a++b)=zi a++zi b:=by simp[zi]
theorem zd3 (a:List Nat):(zi a).length=a.length:=by simp[zi]
theorem zen (l:List Nat) (i:Nat) (h:i<l.length):(zi l)[i]?=some (.int .u64 ((nth l i:Nat):Int)):=by simp[zi,nth,h]
theorem zjx (l:List Nat):∀u∈zi l,u.oneCell'=true:=by
 intro u hu;simp only[zi,List.mem_map] at hu;obtain⟨x,_,rfl⟩:=hu
 rfl
theorem U64s.below {w w':World} {a:Option Addr} {n cap:Nat} {l:List Nat} (h:U64s w a n cap l) (hb:Below w.heap.size w w'):U64s w' a n cap l:=by
 refine⟨h.len,h.lt,h.room,h.most,h.nilc,fun hn=>?_⟩;obtain⟨b,o,ha,hc⟩:=h.cells hn;refine⟨b,o,ha,fun i hi=>?_⟩;have:=hc i hi;exact(hb.cell (p:=⟨b,o+i,none⟩) (ze this)).trans this
theorem U64s.rd {w:World} {a:Option Addr} {n cap:Nat} {l:List Nat} (h:U64s w a n cap l):Rd w 1 a n (zi l):=by
 refine⟨by rw[zd3,h.len];omega,fun hn=>?_⟩;obtain⟨b,o,e,hc⟩:=h.cells hn;refine⟨b,o,e,fun j u hu=>?_⟩
 have hj:j<l.length:=by
  rcases Nat.lt_or_ge j l.length with h' | h'
  · exact h'
  · rw[List.getElem?_eq_none (by rw[zd3];exact h')] at hu;cases hu
 rw[zen l j hj] at hu;cases hu;exact hc j (by rw[←h.len];exact hj)
theorem zbf {w:World} {base n:Nat} {T:TypeId} {v:Value} {l:List Nat} (h:w.ownsRow base T 1 v n (zi l)) (hl:∀x∈l,x<18446744073709551616):∃a cap,v=.slice a n cap∧U64s w a n cap l:=by
 have hlen:l.length=n:=by have:=h.1;rw[zd3] at this;omega
 rcases h.2 with ⟨rfl,rfl⟩ | ⟨g,cap,cur,rfl,hg,hh,hnc,hcm,_⟩
 · exact⟨none,0,rfl,hlen,hl,by omega,by omega,fun _=>rfl,fun h=>by omega⟩
 · refine⟨_,_,rfl,hlen,hl,hnc,by unfold maxLen at hcm;omega,(by intro h;cases h),fun hn=>⟨g,0,rfl,fun i hi=>?_⟩⟩;have hc:=h.cells (g:=g) rfl i (.int .u64 ((nth l i:Nat):Int)) (zen l i (by omega));rw[yp] at hc;exact hc
theorem Ivs.rd {w:World} {a:Option Addr} {n cap:Nat} {l:List Iv} (h:Ivs w a n cap l):Rd w 2 a n (ivC l):=by
 refine⟨by rw[zd1,h.len],fun hn=>?_⟩;obtain⟨b,o,e,hc⟩:=h.cells hn;refine⟨b,o,e,fun j u hu=>?_⟩
 have hj:j<l.length*2:=by
  rcases Nat.lt_or_ge j (l.length*2) with h' | h'
  · exact h'
  · rw[List.getElem?_eq_none (by rw[zd1];exact h')] at hu;cases hu
 have hi:j / 2<l.length:=by omega
 obtain⟨e1,e2⟩:=zd2 l (j / 2) hi;obtain⟨c1,c2⟩:=hc (j / 2) (by rw[←h.len];exact hi);rcases Nat.mod_two_eq_zero_or_one j with hm | hm
 · rw[show j / 2*2=j by omega] at e1 c1;rw[e1] at hu;cases hu;exact c1
 · rw[show j / 2*2+1=j by omega] at e2;rw[show o+j / 2*2+1=o+j by omega] at c2;rw[e2] at hu;cases hu;exact c2
theorem Tryz.info_u64:(Tryz.prog.info? 52).map (fun i=>(i.zero,i.size,i.bytes))=some (some (.int .u64 0),1,8):=by kernel_rfl
theorem Tryz.info_iv:(Tryz.prog.info? 99).map (fun i=>(i.zero,i.size,i.bytes))=some (some (.agg #[.int .u64 0,.int .u64 0]),2,16):=by kernel_rfl
theorem zeo {w:World} (base:Nat) (v:Value) (n:Nat) (xs:List Nat) (hown:w.ownsRow base 52 1 v n (zi xs)) (A:Option Addr) (m c:Nat) (l:List Nat) (hr:Rd w 1 A m (zi l)) (hb:n+m≤1000000) (hbase:base≤w.heap.size):
 ∃v' w',(Builtin.append_ #[50,50] 50 #[v,.slice A m c]).run Tryz.prog w=.ok v' w'∧w'.ownsRow base 52 1 v' (n+m) (zi (xs++l))∧w.grownBy w' v.ownBlock:=by
 rw[zmt];exact zcp base _ _ _ _ 1 8 Tryz.underlying50 Tryz.info_u64 rfl (by omega) v n _ hown A m c _ hr (zjx l) (by unfold maxLen;omega) (by omega) hbase
theorem zd4 {w:World} (base:Nat) (v:Value) (n:Nat) (xs:List Iv) (hown:w.ownsRow base 99 2 v n (ivC xs)) (A:Option Addr) (m c:Nat) (l:List Iv) (hr:Rd w 2 A m (ivC l)) (hb:n+m≤1000000) (hbase:base≤w.heap.size):
 ∃v' w',(Builtin.append_ #[81,81] 81 #[v,.slice A m c]).run Tryz.prog w=.ok v' w'∧w'.ownsRow base 99 2 v' (n+m) (ivC (xs++l))∧w.grownBy w' v.ownBlock:=by
 rw[zju];exact zcp base _ _ _ _ 2 16 Tryz.underlying81 Tryz.info_iv rfl (by omega) v n _ hown A m c _ hr (zqd l) (by unfold maxLen;omega) (by omega) hbase
def yw (l:List Nat):List Value:=l.map fun x=>Value.int .i64 ((x:Nat):Int)
theorem zjy (a b:List Nat):yw (a++b)=yw a++yw b:=by simp[yw]
theorem zmu (a:List Nat):(yw a).length=a.length:=by simp[yw]
theorem zgg (l:List Nat) (i:Nat) (h:i<l.length):(yw l)[i]?=some (.int .i64 ((nth l i:Nat):Int)):=by simp[yw,nth,h]
theorem zzy (l:List Nat):∀u∈yw l,u.oneCell'=true:=by
 intro u hu;simp only[yw,List.mem_map] at hu;obtain⟨x,_,rfl⟩:=hu
 rfl
structure I64s (w:World) (a:Option Addr) (n cap:Nat) (l:List Nat):Prop where
 len:l.length=n
 room:n≤cap
 most:cap≤9223372036854775807
 nilc:a=none→cap=0
 cells:0<n→∃b o,a=some ⟨b,o,none⟩∧∀i,i<n→w.cell? ⟨b,o+i,none⟩=some (.int .i64 ((nth l i:Nat):Int))
theorem I64s.below {w w':World} {a:Option Addr} {n cap:Nat} {l:List Nat} (h:I64s w a n cap l) (hb:Below w.heap.size w w'):I64s w' a n cap l:=by
 refine⟨h.len,h.room,h.most,h.nilc,fun hn=>?_⟩;obtain⟨b,o,ha,hc⟩:=h.cells hn;refine⟨b,o,ha,fun i hi=>?_⟩;have:=hc i hi;exact(hb.cell (p:=⟨b,o+i,none⟩) (ze this)).trans this
theorem Tryz.info_int:(Tryz.prog.info? 3).map (fun i=>(i.zero,i.size,i.bytes))=some (some (.int .i64 0),1,8):=by kernel_rfl
theorem zqn {w:World} (base:Nat) (v:Value) (n:Nat) (xs:List Nat) (hown:w.ownsRow base 3 1 v n (yw xs)) (A:Option Addr) (m c:Nat) (l:List Nat) (hr:Rd w 1 A m (yw l)) (hb:n+m≤1000000) (hbase:base≤w.heap.size):
 ∃v' w',(Builtin.append_ #[111,111] 111 #[v,.slice A m c]).run Tryz.prog w=.ok v' w'∧w'.ownsRow base 3 1 v' (n+m) (yw (xs++l))∧w.grownBy w' v.ownBlock:=by
 rw[zjy];exact zcp base _ _ _ _ 1 8 Tryz.underlying111 Tryz.info_int rfl (by omega) v n _ hown A m c _ hr (zzy l) (by unfold maxLen;omega) (by omega) hbase
theorem zqo {w:World} {ops:Array Oper} {rest:List Oper} {o:Oper} {a:Act} {Q:Exit→Act→World→Prop} (hgd:o.guard=none) (s x:Operand)
 (ho:o.op=.call { callee:=.builtin .append,args:= #[s,x],argTypes:= #[111,111] }) (hty:o.type=111)
 (base:Nat) (v:Value) (n:Nat) (xs:List Nat) (hs:a.eval s=v) (hown:w.ownsRow base 3 1 v n (yw xs)) (A:Option Addr) (m c:Nat) (l:List Nat) (hx:a.eval x=.slice A m c) (hr:Rd w 1 A m (yw l)) (hb:n+m≤1000000) (hbase:base≤w.heap.size)
 (h:∀v' w',w'.ownsRow base 3 1 v' (n+m) (yw (xs++l))→w.grownBy w' v.ownBlock→wpList Tryz.prog ops Q rest (a.put o.dst v') w'):wpList Tryz.prog ops Q (o :: rest) a w:=by
 obtain⟨v',w',hrun,h1,h2⟩:=zqn base v n xs hown A m c l hr hb hbase;exact jf _ _ _ ho (by simp[Region.wanted,hgd]) _ _ hs hx v' w' (by rw[hty];exact hrun) (h v' w' h1 h2)
structure Rls (w:World) (a:Option Addr) (n cap:Nat) (ls:List (List Iv)):Prop where
 len:ls.length=n
 room:n≤cap
 most:cap≤9223372036854775807
 nilc:a=none→cap=0
 cells:0<n→∃b o,a=some ⟨b,o,none⟩∧∀i,i<n→∃A c,w.cell? ⟨b,o+i,none⟩=some (.slice A (ls.getD i []).length c)∧Ivs w A (ls.getD i []).length c (ls.getD i [])
theorem Rls.below {w w':World} {a:Option Addr} {n cap:Nat} {ls:List (List Iv)} (h:Rls w a n cap ls) (hb:Below w.heap.size w w'):Rls w' a n cap ls:=by
 refine⟨h.len,h.room,h.most,h.nilc,fun hn=>?_⟩;obtain⟨b,o,ha,hc⟩:=h.cells hn;refine⟨b,o,ha,fun i hi=>?_⟩;obtain⟨A,c,h1,h2⟩:=hc i hi;exact⟨A,c,(hb.cell (p:=⟨b,o+i,none⟩) (ze h1)).trans h1,h2.below hb⟩
end
section
open Go.RowKit Go.Sort
set_option maxRecDepth 100000 in
theorem zzz (blk off cap a L:Nat) (d:Array Nat) (w:World) (hH:Holds zf w blk off d) (hblk:blk<w.heap.size) (hb:a+L≤d.size) (hsz:d.size<4611686018427387904) (h8:8≤L):
 Calls Tryz.prog 275 #[.slice (some ⟨blk,off,none⟩) d.size cap,.int .i64 a,.int .i64 ((a+L:Nat):Int)] w fun e w'=>
  e=.returned (.tuple #[])∧∃n os,w'=grow (putRow zf (Sort.ahead w n) blk off (breakPatterns d a (a+L))) os:=by
 rw[breakPatterns_eq d a L h8];obtain⟨M,hM⟩:∃M:Nat,M=1 <<< bitsLen L:=⟨_,rfl⟩;have hM1:1≤M:=by rw[hM,Nat.one_shiftLeft];exact Nat.two_pow_pos _
 have hM2:M≤2*L:=by rw[hM,Nat.one_shiftLeft];exact two_pow_bitsLen_le (by omega)
 have hNP:∀w,Calls Tryz.prog 249 #[.int .i64 (L:Int)] w fun e w'=>e=.returned (.int .u64 (M:Int))∧w'=w:=by rw[hM];exact fun w=>zy4 L (by omega) w
 rw[←hM];clear hM;have HH:Hid (Holds zf w blk off d):=hH
 have HST:Hid (w.alloc (Obj.cells #[.int .u64 (L:Int)] 337)=grow (putRow zf (Sort.ahead w 0) blk off d) #[Obj.cells #[.int .u64 ((UInt64.ofNat L).toNat:Int)] 337]):=by
  show _=_;rw[show Sort.ahead w 0=w from rfl,putRow_self _ _ _ _ _ hH,alloc_eq_grow,show (UInt64.ofNat L).toNat=L from by simp;omega]
 clear hH;go_enter Tryz.func275,Tryz.ntmps275;go_wp2_with (first | (go_at_call 249;rw[show ((a:Int)+(L:Int) - (a:Int))=(L:Int) by omega];refine(hNP _).mono ?_;rintro e w' ⟨rfl,rfl⟩))
 go_loopw [9] (fun vi wr=>∃(t n:Nat) (r:UInt64) (dk:Array Nat),vi=.int .i64 ((a+L / 4*2 - 1+t:Nat):Int)∧t≤3∧dk.size=d.size∧
  wr=grow (putRow zf (Sort.ahead w n) blk off dk) #[Obj.cells #[.int .u64 (r.toNat:Int)] 337]∧
  bpRest a L M (a+L / 4*2 - 1) (3 - t) t (r,dk)=bpRest a L M (a+L / 4*2 - 1) 3 0 (UInt64.ofNat L,d)) (fun vi _=>a+L / 4*2+3 - (intOf vi).toNat)
 case atStart=>exact⟨0,0,UInt64.ofNat L,d,by congr 1;omega,by omega,rfl,HST.out,rfl⟩
 case round=>
  obtain⟨t,n,r,dk,rfl,ht,hsk,hw,hR⟩:=hrel;obtain⟨R,hRr⟩:∃R:Nat,R=r.toNat:=⟨_,rfl⟩;have lR:R<18446744073709551616:=by rw[hRr];exact r.toNat_lt
  obtain⟨R',hR'⟩:∃R':Nat,R'=xorNextN R:=⟨_,rfl⟩;have lR':R'<18446744073709551616:=by rw[hR'];exact xorNextN_lt R lR
  obtain⟨O,hO⟩:∃O:Nat,O=R' &&& (M - 1):=⟨_,rfl⟩;have lO:O≤M - 1:=by rw[hO];exact Nat.and_le_right
  have eAnd:bits .and .u64 (R':Int) ((M:Int) - 1)=(O:Int):=by
   rw[show ((M:Int) - 1)=((M - 1:Nat):Int) by omega,bits_and_u64_nat _ _ lR' (by omega),hO]
  obtain⟨G,hG⟩:∃G:Nat→Nat,∀x,G x=dk[x]! :=⟨fun x=>dk[x]!,fun _=>rfl⟩;have hz:(putRow zf (Sort.ahead w n) blk off dk).heap.size=w.heap.size:=by simp
  have hcw:∀x,x<d.size→wr.cell? ⟨blk,off+x,none⟩=some (.int .u64 ((G x:Nat):Int)):=fun x hx=>by
   rw[hw,cell?_grow _ _ _ (by rw[hz];exact hblk),hG];exact cell?_putRow _ _ _ _ d dk (holds_ahead _ _ _ _ _ _ HH.out) hsk x (by omega)
  have hfw:∀x,x<d.size→wr.frozen? ⟨blk,off+x,none⟩=false:=fun x hx=>by
   rw[hw,frozen?_grow _ _ _ (by rw[hz];exact hblk),frozen?_putRow];exact((holds_ahead _ _ n _ _ _ HH.out) x hx).2
  have hcB:wr.cell? ⟨w.heap.size,0,none⟩=some (.int .u64 (R:Int)):=by rw[hw,hRr,←hz];exact grow_one_cell _ _ _
  have hfB:wr.frozen? ⟨w.heap.size,0,none⟩=false:=by rw[hw,←hz];exact grow_one_frozen _ _ _
  have hNext:Calls Tryz.prog 250 #[.pointer (some ⟨w.heap.size,0,none⟩)] wr fun e w'=>e=.returned (.int .u64 (R':Int))∧w'=(wr.setCell ⟨w.heap.size,0,none⟩ (.int .u64 (R':Int))).drewN 3:=by
   rw[hR'];exact zy3 _ _ R lR wr hcB hfB
  have HW:Hid (wr=grow (putRow zf (Sort.ahead w n) blk off dk) #[Obj.cells #[.int .u64 (r.toNat:Int)] 337]):=hw;have HG:Hid (∀x,G x=dk[x]!):=hG;have HR:Hid (bpRest a L M (a+L / 4*2 - 1) (3 - t) t (r,dk)=bpRest a L M (a+L / 4*2 - 1) 3 0 (UInt64.ofNat L,d)):=hR
  have HN:Hid (R'=(xorNext r).toNat∧O=(xorNext r).toNat &&& (M - 1)):=by
   have e:R'=(xorNext r).toNat:=by rw[hR',hRr,xorNext_toNat]
   exact⟨e,by rw[hO,e]⟩
  clear hw hG hR hRr hR' hO;go_wp2_with (first | (go_at_call 250;refine hNext.mono ?_;rintro e w' ⟨rfl,rfl⟩))
  ·
   have hLO:L≤O:=by omega
   by_cases hEq:a+L / 4*2 - 1+t=a+(O - L)
   all_goals
    go_region
    all_goals go_wp2
    go_roundw
    case rel=>
     refine⟨t+1,n+4,xorNext r,swp dk (a+L / 4*2 - 1+t) (a+(O - L)),by first | rfl | (congr 1 <;> omega),by omega,by rw[size_swp];exact hsk,?_,?_⟩
     · (try rw[hEq])
       rw[HW.out,HN.out.1];simp only[HG.out];exact step_world zf w n 4 blk off dk _ _ hblk (by omega) (by omega) _ _ _
     · rw[←HR.out,bp_step a L M _ t r dk (O - L) (by omega) (by rw[←HN.out.2,if_pos (by omega)])]
    case measure=>simp[intOf];omega
  · have hLO:¬L≤O:=by omega
    by_cases hEq:a+L / 4*2 - 1+t=a+O
    all_goals
     go_region
     all_goals go_wp2
     go_roundw
     case rel=>
      refine⟨t+1,n+4,xorNext r,swp dk (a+L / 4*2 - 1+t) (a+O),by first | rfl | (congr 1 <;> omega),by omega,by rw[size_swp];exact hsk,?_,?_⟩
      · (try rw[hEq])
        rw[HW.out,HN.out.1];simp only[HG.out];exact step_world zf w n 4 blk off dk _ _ hblk (by omega) (by omega) _ _ _
      · rw[←HR.out,bp_step a L M _ t r dk O (by omega) (by rw[←HN.out.2,if_neg (by omega)])]
     case measure=>simp[intOf];omega
  ·
   obtain rfl:t=3:=by omega
   go_end0
   exact⟨rfl,n,_,by rw[←HR.out,HW.out];rfl⟩
theorem zz0 (blk off cap a b:Nat) (d:Array Nat) (w:World) (hH:Holds zf w blk off d) (hblk:blk<w.heap.size) (hab:a≤b) (hb:b≤d.size) (hsz:d.size<4611686018427387904):
 Calls Tryz.prog 275 #[.slice (some ⟨blk,off,none⟩) d.size cap,.int .i64 a,.int .i64 b] w fun e w'=>
  e=.returned (.tuple #[])∧∃n os,w'=grow (putRow zf (Sort.ahead w n) blk off (breakPatterns d a b)) os:=by
 obtain⟨L,rfl⟩:∃L,b=a+L:=⟨b - a,by omega⟩;by_cases h8:8≤L
 · exact zzz blk off cap a L d w hH hblk hb hsz h8
 · have hv:breakPatterns d a (a+L)=d:=by unfold breakPatterns;simp only[Nat.add_sub_cancel_left];rw[if_neg h8]
   rw[hv]
   have HST:Hid (w=grow (putRow zf (Sort.ahead w 0) blk off d) #[]):=by
    show _=_;rw[grow_empty,show Sort.ahead w 0=w from rfl,putRow_self _ _ _ _ _ hH]
   clear hH;go_enter Tryz.func275,Tryz.ntmps275;go_wp2;go_end0
   exact⟨rfl,0,#[],HST.out⟩
end
section
open Go.RowKit
set_option maxRecDepth 20000 in
theorem zz4 (g o c a b:Nat) (d:Array Nat) (w:World) (hH:Sort.Holds zf w g o d) (hab:a≤b) (hb:b≤d.size) (hsz:d.size<4611686018427387904):
 Calls Tryz.prog 274 #[.slice (some ⟨g,o,none⟩) d.size c,.int .i64 a,.int .i64 b] w fun e w'=>
  e=.returned (.tuple #[])∧∃n,w'=Sort.putRow zf (Sort.ahead w n) g o (Sort.heapSort ltU d a b):=by
 have HH:=hid hH;have H0:=hid (Sort.putRow_self zf w g o d hH).symm;obtain⟨L,hL⟩:∃L,L=b - a:=⟨_,rfl⟩;have hsub:IntKind.i64.wrap ((b:Int) - (a:Int))=(L:Int):=by rw[IntKind.wrap_i64];omega
 have Hst:=hid (show ((L:Int) - 1).tdiv 2=(((L - 1) / 2+1:Nat):Int) - 1 from by
  have:=half_start hab;rw[←hL] at this;rw[←this];congr 1;omega)
 have Hsp:=hid (show Sort.heapSort ltU d a b=Sort.heapPop ltU a L (Sort.heapBuild ltU L a ((L - 1) / 2+1) d) from by rw[hL];rfl);have HL:=hid hL;have hbL:b=a+L:=by omega
 have hLz:a+L≤d.size:=by omega
 have HS:=hid (fun (k m:Nat) (dk:Array Nat) (wr:World) (hw:∃n,wr=Sort.putRow zf (Sort.ahead w n) g o dk) (hs:dk.size=d.size) (hkm:k≤m) (hm:m≤L)=>
  show Calls Tryz.prog 288 #[.slice (some ⟨g,o,none⟩) d.size c,.int .i64 k,.int .i64 m,.int .i64 a] wr fun e w'=>e=.returned (.tuple #[])∧∃n,w'=Sort.putRow zf (Sort.ahead w n) g o (Sort.siftDown ltU m a k dk) from by
  obtain⟨n,hw⟩:=hw;have h:=zzc g o c k m a dk wr (zhj HH.out hs hw) hkm (by omega) (by omega);rw[hs] at h;refine h.mono ?_;rintro e w1 ⟨he,n2,h2⟩;refine⟨he,n+n2,?_⟩;rw[h2,hw];exact Sort.putRow_ahead_putRow zf w n n2 g o dk _ (Sort.size_siftDown ltU m a _ k dk (Nat.le_refl _)))
 clear hH hL hbL;go_enter Tryz.func274,Tryz.ntmps274;go_wp2
 go_loopw [9] (fun v wr=>∃(k:Nat) (z:Int) (dk:Array Nat),v=.int .i64 z∧z=(k:Int) - 1∧k≤(L - 1) / 2+1∧dk.size=d.size∧Hid (∃n,wr=Sort.putRow zf (Sort.ahead w n) g o dk)∧
  Hid (Sort.heapBuild ltU L a k dk=Sort.heapBuild ltU L a ((L - 1) / 2+1) d)) (fun v _=>(intOf v+1).toNat)
 case atStart=>exact⟨(L - 1) / 2+1,_,d,rfl,Hst.out,Nat.le_refl _,rfl,⟨0,H0.out⟩,rfl⟩
 case round=>
  obtain⟨k,z,dk,rfl,hz,hk,hs,HW,HB⟩:=hrel;by_cases hk0:k=0
  · have hz1:z= -1:=by omega
    have Hbe:=hid (show dk=Sort.heapBuild ltU L a ((L - 1) / 2+1) d from by rw[←HB.out,hk0];rfl);subst hz1;clear hz hk0 hk;go_wp2
    go_loopw [10] (fun v wr2=>∃(k:Nat) (z:Int) (dj:Array Nat),v=.int .i64 z∧z=(k:Int) - 1∧k≤L∧dj.size=d.size∧Hid (∃n,wr2=Sort.putRow zf (Sort.ahead w n) g o dj)∧
     Hid (Sort.heapPop ltU a k dj=Sort.heapPop ltU a L dk)) (fun v _=>(intOf v+1).toNat)
    case atStart=>exact⟨L,_,dk,rfl,by omega,Nat.le_refl _,hs,HW,rfl⟩
    case round=>
     obtain⟨k2,z,dj,rfl,hz,hk,hsj,HW2,HP⟩:=hrel;by_cases hk0:k2=0
     · have hz1:z= -1:=by omega
       have Hpe:=hid (show dj=Sort.heapPop ltU a L dk from by rw[←HP.out,hk0];rfl);subst hz1;clear hz hk0 hk;go_wp2;go_end0
       obtain⟨n,hn⟩:=HW2.out;exact⟨rfl,n,by rw[hn,Hsp.out,←Hbe.out,←Hpe.out]⟩
     · obtain⟨q,rfl⟩:∃q,k2=q+1:=⟨k2 - 1,by omega⟩;obtain rfl:z=(q:Int):=by omega
       obtain⟨n,hn⟩:=HW2.out;obtain⟨G,⟨hcw,hfw,hG⟩⟩:=zjo (zhj HH.out hsj hn) hsj;have HG:=hid hG;have Hn:=hid hn
       have HSW:=hid (show ∃n2,(((wr.drewN 1).setCell ⟨g,o+a,none⟩ (zf (G (a+q)))).setCell ⟨g,o+(a+q),none⟩ (zf (G a)))=Sort.putRow zf (Sort.ahead w n2) g o (Sort.swp dj a (a+q)) from
        ⟨n+1,by rw[HG.out,HG.out];exact zjp Hn.out 1 a (a+q) (by omega) (by omega)⟩)
       have hC:=hid (HS.out 0 q (Sort.swp dj a (a+q)) _ HSW.out (by rw[Sort.size_swp];exact hsj) (Nat.zero_le _) (by omega));have haq:a+q<d.size:=by omega
       have hwr:IntKind.i64.wrap ((a:Int)+(q:Int))=((a+q:Nat):Int):=by rw[IntKind.wrap_i64];omega
       have ha0:a<d.size:=by omega
       clear hG hn hz hk0;rcases Nat.eq_zero_or_pos q with hq0 | hq0
       · subst hq0;simp only[Nat.add_zero,Int.natCast_zero] at hC hwr;go_wp2_with fail;go_region
         all_goals go_wp2_with fail
         go_wp2_with (go_at_call 288;refine hC.out.mono ?_;rintro e w1 ⟨rfl,hw1⟩;have Hw1:=hid hw1;clear hw1);go_roundw
         case rel=>
          exact⟨0,(((0:Nat):Int):Int) - 1,_,by go_num,rfl,by omega,(Sort.size_siftDown ltU 0 a _ 0 _ (Nat.le_refl _)).trans ((Sort.size_swp _ _ _).trans hsj),Hw1.out,HP.out⟩
         case measure=>simp[intOf] <;> omega
       · go_wp2_with fail;go_region
         all_goals go_wp2_with fail
         go_wp2_with (go_at_call 288;refine hC.out.mono ?_;rintro e w1 ⟨rfl,hw1⟩;have Hw1:=hid hw1;clear hw1);go_roundw
         case rel=>
          exact⟨q,(q:Int) - 1,_,by go_num,rfl,by omega,(Sort.size_siftDown ltU q a _ 0 _ (Nat.le_refl _)).trans ((Sort.size_swp _ _ _).trans hsj),Hw1.out,HP.out⟩
         case measure=>simp[intOf] <;> omega
  · obtain⟨q,rfl⟩:∃q,k=q+1:=⟨k - 1,by omega⟩;obtain rfl:z=(q:Int):=by omega
    have hC:=hid (HS.out q L dk wr HW.out hs (by omega) (Nat.le_refl _));clear hz hk0;go_wp2_with (go_at_call 288;refine hC.out.mono ?_;rintro e w1 ⟨rfl,hw1⟩;have Hw1:=hid hw1;clear hw1);go_roundw
    case rel=>
     exact⟨q,(q:Int) - 1,_,by go_num,rfl,by omega,(Sort.size_siftDown ltU L a _ q dk (Nat.le_refl _)).trans hs,Hw1.out,HB.out⟩
    case measure=>simp[intOf] <;> omega
end
section
open Go.RowKit Go.Sort
theorem zz5 (w:World) (N S:Nat):∃os,putRow (Value.int .i64) (Sort.ahead (w.alloc (.cells #[.int .i64 0] 3)) N) w.heap.size 0 (one S)=grow (Sort.ahead w N) os:=by
 rw[alloc_eq_grow,ahead_grow];obtain⟨os,_,h⟩:=putRow_grow_new (Value.int .i64) (Sort.ahead w N) #[.cells #[.int .i64 0] 3] w.heap.size 0 (one S) (Nat.le_refl _);exact⟨os,h⟩
theorem zz6 (blk off cap:Nat) (d:Array Nat) (w:World) (hH:Holds zf w blk off d) (hblk:blk<w.heap.size) (hsz:d.size<4611686018427387904):
 ∃Wc:Nat→Nat→World,
  w.alloc (.cells #[.int .i64 0] 3)=Wc 0 0∧
  (∀N S:Nat,(Wc N S).cell? ⟨w.heap.size,0,none⟩=some (.int .i64 (S:Int)))∧
  (∀N S:Nat,∃os,Wc N S=grow (Sort.ahead w N) os)∧
  (∀x s N:Nat,1≤x→x+1<d.size→s+3<4611686018427387904→Calls Tryz.prog 289 #[.slice (some ⟨blk,off,none⟩) d.size cap,.int .i64 (x:Int),.pointer (some ⟨w.heap.size,0,none⟩)] (Wc N s) fun e w'=>
    e=.returned (.int .i64 ((medianAdjacent ltU d x s).1:Int))∧∃N',w'=Wc N' (medianAdjacent ltU d x s).2)∧
  (∀x y z s N:Nat,x<d.size→y<d.size→z<d.size→s+3<4611686018427387904→Calls Tryz.prog 290 #[.slice (some ⟨blk,off,none⟩) d.size cap,.int .i64 (x:Int),.int .i64 (y:Int),.int .i64 (z:Int),.pointer (some ⟨w.heap.size,0,none⟩)] (Wc N s) fun e w'=>
    e=.returned (.int .i64 ((median ltU d x y z s).1:Int))∧∃N',w'=Wc N' (median ltU d x y z s).2):=by
 have hne:w.heap.size≠blk:=by omega
 have hH0:Holds zf (w.alloc (.cells #[.int .i64 0] 3)) blk off d:=by rw[alloc_eq_grow];exact holds_grow _ _ _ _ _ _ hblk hH
 have hS0:Holds (Value.int .i64) (w.alloc (.cells #[.int .i64 0] 3)) w.heap.size 0 (one 0):=fun j hj=>by
  obtain rfl:j=0:=by simpa using hj
  simp
 refine⟨fun N S=>putRow (Value.int .i64) (Sort.ahead (w.alloc (.cells #[.int .i64 0] 3)) N) w.heap.size 0 (one S),(putRow_self _ _ _ _ _ hS0).symm,fun N S=>(one_cell (holds_one (n:=N) (t:=S) hS0)).1,fun N S=>zz5 w N S,?_,?_⟩
 · intro x s N h1 h2 hs;refine(zzd d _ rfl blk off cap x w.heap.size 0 s _ (zhn hH0 hne) h1 h2 (by omega) hne (holds_one hS0) (by omega)).mono ?_;rintro e w' ⟨he,n,hw⟩;exact⟨he,N+n,by rw[hw,one_one]⟩
 · intro x y z s N h1 h2 h3 hs;refine(zqg d _ rfl blk off cap x y z w.heap.size 0 s _ (zhn hH0 hne) h1 h2 h3 hne (holds_one hS0) (by omega)).mono ?_;rintro e w' ⟨he,n,hw⟩;exact⟨he,N+n,by rw[hw,one_one]⟩
set_option maxRecDepth 100000 in
theorem zz7 (blk off cap a b:Nat) (d:Array Nat) (w:World) (hH:Holds zf w blk off d) (hblk:blk<w.heap.size) (hab:a<b) (hb:b≤d.size) (hsz:d.size<4611686018427387904):
 Calls Tryz.prog 276 #[.slice (some ⟨blk,off,none⟩) d.size cap,.int .i64 a,.int .i64 b] w fun e w'=>
  e=.returned (.tuple #[.int .i64 (choosePivot ltU d a b).1,.int .i64 (hintCode (choosePivot ltU d a b).2)])∧∃n os,w'=grow (Sort.ahead w n) os:=by
 obtain⟨Wc,hW0,cS,hG,MA,MD⟩:=zz6 blk off cap d w hH hblk hsz;clear hH;rw[choosePivot_eq];obtain⟨I,hI⟩:∃I:Nat,I=a+(b - a) / 4*1:=⟨_,rfl⟩;obtain⟨J,hJ⟩:∃J:Nat,J=a+(b - a) / 4*2:=⟨_,rfl⟩;obtain⟨K,hK⟩:∃K:Nat,K=a+(b - a) / 4*3:=⟨_,rfl⟩;have eI:((a:Int)+((b:Int) - (a:Int)) / 4)=(I:Int):=by omega
 have eJ:((a:Int)+((b:Int) - (a:Int)) / 4*2)=(J:Int):=by omega
 have eK:((a:Int)+((b:Int) - (a:Int)) / 4*3)=(K:Int):=by omega
 by_cases h8:b - a≥8
 · by_cases h50:b - a≥50
   ·
    obtain⟨i1,s1,h1⟩:∃i1 s1,medianAdjacent ltU d I 0=(i1,s1):=⟨_,_,rfl⟩;obtain⟨j1,s2,h2⟩:∃j1 s2,medianAdjacent ltU d J s1=(j1,s2):=⟨_,_,rfl⟩;obtain⟨k1,s3,h3⟩:∃k1 s3,medianAdjacent ltU d K s2=(k1,s3):=⟨_,_,rfl⟩;obtain⟨p,s,h4⟩:∃p s,median ltU d i1 j1 k1 s3=(p,s):=⟨_,_,rfl⟩;have hraw:rawPivot ltU d a b=(p,s):=by simp only[rawPivot,if_pos h8,if_pos h50,←hI,←hJ,←hK,h1,h2,h3,h4]
    have m1:=medianAdjacent_mem ltU d I 0;rw[h1] at m1;have m2:=medianAdjacent_mem ltU d J s1;rw[h2] at m2;have m3:=medianAdjacent_mem ltU d K s2;rw[h3] at m3;have n1:=medianAdjacent_count ltU d I 0;rw[h1] at n1;have n2:=medianAdjacent_count ltU d J s1;rw[h2] at n2;have n3:=medianAdjacent_count ltU d K s2;rw[h3] at n3;simp only[] at m1 m2 m3 n1 n2 n3
    have c1:Calls Tryz.prog 289 #[.slice (some ⟨blk,off,none⟩) d.size cap,.int .i64 (I:Int),.pointer (some ⟨w.heap.size,0,none⟩)] (Wc 0 0) fun e w'=>e=.returned (.int .i64 (i1:Int))∧∃N',w'=Wc N' s1:=by
     have h:=MA I 0 0 (by omega) (by omega) (by omega);rw[h1] at h;exact h
    have c2:∀N,Calls Tryz.prog 289 #[.slice (some ⟨blk,off,none⟩) d.size cap,.int .i64 (J:Int),.pointer (some ⟨w.heap.size,0,none⟩)] (Wc N s1) fun e w'=>e=.returned (.int .i64 (j1:Int))∧∃N',w'=Wc N' s2:=fun N=>by
     have h:=MA J s1 N (by omega) (by omega) (by omega);rw[h2] at h;exact h
    have c3:∀N,Calls Tryz.prog 289 #[.slice (some ⟨blk,off,none⟩) d.size cap,.int .i64 (K:Int),.pointer (some ⟨w.heap.size,0,none⟩)] (Wc N s2) fun e w'=>e=.returned (.int .i64 (k1:Int))∧∃N',w'=Wc N' s3:=fun N=>by
     have h:=MA K s2 N (by omega) (by omega) (by omega);rw[h3] at h;exact h
    have c4:∀N,Calls Tryz.prog 290 #[.slice (some ⟨blk,off,none⟩) d.size cap,.int .i64 (i1:Int),.int .i64 (j1:Int),.int .i64 (k1:Int),.pointer (some ⟨w.heap.size,0,none⟩)] (Wc N s3) fun e w'=>e=.returned (.int .i64 (p:Int))∧∃N',w'=Wc N' s:=fun N=>by
     have h:=MD i1 j1 k1 s3 N (by omega) (by omega) (by omega) (by omega);rw[h4] at h;exact h
    rw[hraw];obtain⟨Hc,hHc⟩:∃Hc:Int,Hc=hintCode (hintOf s):=⟨_,rfl⟩;have hh0:s=0→Hc=1:=fun h=>by rw[hHc,h];rfl
    have hh12:s=12→Hc=2:=fun h=>by rw[hHc,h];rfl
    have hhx:s≠0→s≠12→Hc=0:=fun h1 h2=>by rw[hHc];unfold hintOf;rw[if_neg h1,if_neg h2];rfl
    show Calls Tryz.prog 276 _ w fun e w'=>e=.returned (.tuple #[.int .i64 (p:Int),.int .i64 (hintCode (hintOf s))])∧∃n os,w'=grow (Sort.ahead w n) os
    rw[←hHc];clear hHc hraw;clear h1 h2 h3 h4 MA MD hI hJ hK m1 m2 m3;go_enter Tryz.func276,Tryz.ntmps276
    go_wp2_with (first
     | (go_at_call_has 289 (Value.int .i64 (I:Int));refine c1.mono ?_;rintro e w' ⟨rfl,N1,rfl⟩)
     | (go_at_call_has 289 (Value.int .i64 (J:Int));refine(c2 _).mono ?_;rintro e w' ⟨rfl,N2,rfl⟩)
     | (go_at_call_has 289 (Value.int .i64 (K:Int));refine(c3 _).mono ?_;rintro e w' ⟨rfl,N3,rfl⟩)
     | (go_at_call 290;refine(c4 _).mono ?_;rintro e w' ⟨rfl,N4,rfl⟩))
    all_goals
     go_ret2;refine⟨?_,_,hG _ _⟩
     first
      | (have e0:(s:Int)=0:=of_beq_int (by assumption)
         rw[hh0 (by omega)];rfl)
      | (have e1:(s:Int)=12:=of_beq_int (by assumption)
         rw[hh12 (by omega)];rfl)
      | (have e0:(s:Int)≠0:=of_bne_int (by assumption)
         have e1:(s:Int)≠12:=of_bne_int (by assumption)
         rw[hhx (by omega) (by omega)];rfl)
      | (rw[hh0 (by omega)];rfl)
   ·
    obtain⟨p,s,h4⟩:∃p s,median ltU d I J K 0=(p,s):=⟨_,_,rfl⟩;have hraw:rawPivot ltU d a b=(p,s):=by simp only[rawPivot,if_pos h8,if_neg h50,←hI,←hJ,←hK,h4]
    have c4:Calls Tryz.prog 290 #[.slice (some ⟨blk,off,none⟩) d.size cap,.int .i64 (I:Int),.int .i64 (J:Int),.int .i64 (K:Int),.pointer (some ⟨w.heap.size,0,none⟩)] (Wc 0 0) fun e w'=>e=.returned (.int .i64 (p:Int))∧∃N',w'=Wc N' s:=by
     have h:=MD I J K 0 0 (by omega) (by omega) (by omega) (by omega);rw[h4] at h;exact h
    rw[hraw];obtain⟨Hc,hHc⟩:∃Hc:Int,Hc=hintCode (hintOf s):=⟨_,rfl⟩;have hh0:s=0→Hc=1:=fun h=>by rw[hHc,h];rfl
    have hh12:s=12→Hc=2:=fun h=>by rw[hHc,h];rfl
    have hhx:s≠0→s≠12→Hc=0:=fun h1 h2=>by rw[hHc];unfold hintOf;rw[if_neg h1,if_neg h2];rfl
    show Calls Tryz.prog 276 _ w fun e w'=>e=.returned (.tuple #[.int .i64 (p:Int),.int .i64 (hintCode (hintOf s))])∧∃n os,w'=grow (Sort.ahead w n) os
    rw[←hHc];clear hHc hraw;clear h4 MA MD hI hJ hK;go_enter Tryz.func276,Tryz.ntmps276;go_wp2_with (first | (go_at_call 290;refine c4.mono ?_;rintro e w' ⟨rfl,N4,rfl⟩))
    all_goals
     go_ret2;refine⟨?_,_,hG _ _⟩
     first
      | (have e0:(s:Int)=0:=of_beq_int (by assumption)
         rw[hh0 (by omega)];rfl)
      | (have e1:(s:Int)=12:=of_beq_int (by assumption)
         rw[hh12 (by omega)];rfl)
      | (have e0:(s:Int)≠0:=of_bne_int (by assumption)
         have e1:(s:Int)≠12:=of_bne_int (by assumption)
         rw[hhx (by omega) (by omega)];rfl)
      | (rw[hh0 (by omega)];rfl)
 ·
  obtain⟨p,hp⟩:∃p:Nat,p=J:=⟨_,rfl⟩;obtain⟨s,hs⟩:∃s:Nat,s=0:=⟨_,rfl⟩;have hraw:rawPivot ltU d a b=(p,s):=by simp only[rawPivot,if_neg h8,←hJ,hp,hs]
  rw[hraw];obtain⟨Hc,hHc⟩:∃Hc:Int,Hc=hintCode (hintOf s):=⟨_,rfl⟩;have hh0:s=0→Hc=1:=fun h=>by rw[hHc,h];rfl
  have hh12:s=12→Hc=2:=fun h=>by rw[hHc,h];rfl
  have hhx:s≠0→s≠12→Hc=0:=fun h1 h2=>by rw[hHc];unfold hintOf;rw[if_neg h1,if_neg h2];rfl
  show Calls Tryz.prog 276 _ w fun e w'=>e=.returned (.tuple #[.int .i64 (p:Int),.int .i64 (hintCode (hintOf s))])∧∃n os,w'=grow (Sort.ahead w n) os
  rw[←hHc];clear hHc hraw;subst hp;clear MA MD hI hJ hK;have hW0':w.alloc (.cells #[.int .i64 0] 3)=Wc 0 s:=by rw[hs];exact hW0
  clear hW0;go_enter Tryz.func276,Tryz.ntmps276;go_wp2
  all_goals
   go_ret2;refine⟨?_,_,hG _ _⟩
   first
    | (have e0:(s:Int)=0:=of_beq_int (by assumption)
       rw[hh0 (by omega)];rfl)
    | (have e1:(s:Int)=12:=of_beq_int (by assumption)
       rw[hh12 (by omega)];rfl)
    | (have e0:(s:Int)≠0:=of_bne_int (by assumption)
       have e1:(s:Int)≠12:=of_bne_int (by assumption)
       rw[hhx (by omega) (by omega)];rfl)
    | (rw[hh0 (by omega)];rfl)
theorem zz8 (x y:Iv) (W:World):Calls Tryz.prog 122 #[.agg #[.int .u64 ((x.1:Nat):Int),.int .u64 ((x.2:Nat):Int)],.agg #[.int .u64 ((y.1:Nat):Int),.int .u64 ((y.2:Nat):Int)]] W fun e w'=>e=.returned (.int .i64 (cfI x y))∧∃q os',w'=grow (W.drewN q) os':=by
 have hcon:=fun W'=>zme x.1 y.1 W'
 unfold cfI;generalize Lib.compareInt (x.1:Int) (y.1:Int)=r at hcon ⊢;obtain⟨a,b⟩:=x;obtain⟨c,d⟩:=y;go_enter Tryz.func122,Tryz.ntmps122;go_wp2_with (go_at_call 123;refine(hcon _).mono ?_;rintro e w' ⟨rfl,rfl⟩);go_ret;exact⟨rfl,0,_,by rw[alloc_eq_grow,alloc_eq_grow,grow_grow];rfl⟩
theorem zz9 (g size:Nat) (w:World):CmpLays Tryz.prog 122 #[] zdk 2 cfI g 0 size w:=
 fun _ _ _ _ x y=>zz8 x y _
theorem Tryz.isAgg_iv (w:World):(isAgg 99).run Tryz.prog w=.ok true w:=by go_simp
theorem Tryz.sizeOf_iv (w:World):(Go.sizeOf 99).run Tryz.prog w=.ok 2 w:=by go_simp
set_option maxRecDepth 100000 in
theorem z0a (g n cap:Nat) (l:List Iv) (w:World) (hl:l.length=n) (hH:HoldsK zdk 2 w g 0 l.toArray) (hg:g<w.heap.size) (hn:n≤100000):
 Calls Tryz.prog 121 #[.slice (some ⟨g,0,none⟩) n cap,.func (.func 122) #[] #[]] w fun e w'=>
  e=.returned (.tuple #[])∧∃l' m os,l'.Perm l∧zfp l'∧w'=sortWorldK zdk 2 w g 0 m l'.toArray os:=by
 have eg:∀args w,(callFunc 122 args).run Tryz.prog w=.ok (.enter 122 args) w:=enters_of Tryz.func122 (by kernel_rfl) rfl;have hsz:l.toArray.size=n:=by simpa using hl
 have hb:Lib.bitLen n<4611686018427387904:=Nat.lt_of_le_of_lt (Lib.bitLen_le n 62 (by omega) (by omega)) (by omega);have hp:=AnyQ.pdqsortCmpFunc_all Tryz.pdqIv 2 Tryz.isAgg_iv Tryz.sizeOf_iv zdk cfI 122 #[] zqk g 0 cap l.toArray w eg (zz9 g l.toArray.size w) ⟨fun _=>rfl,fun x v hv=>by simp[zdk] at hv;rcases hv with rfl | rfl <;> rfl,hH,hg⟩ (l.toArray.size+1) 0 l.toArray.size (Lib.bitLen n) l.toArray w (by omega) rfl (SWK.start hH) (Nat.zero_le _) (Nat.le_refl _) (by omega) hb (Or.inl rfl);have hs:=pdq_sorts (ltOf cfI) zqk l.toArray 0 l.toArray.size (Lib.bitLen n) true true (Nat.zero_le _) (Nat.le_refl _) (Or.inl rfl);rw[hsz] at hp;change Calls Tryz.prog 161 _ _ _ at hp;have hq:=zzq hs.1;have hsort:=zzr hs.1.1 hs.2;rw[hsz] at hq hsort;generalize pdq (ltOf cfI) l.toArray 0 n (Lib.bitLen n) true true=r at hp hq hsort;have Hl:=hid (fun w=>Tryz.bits_Len (n:Int) w (by omega) (by omega));rw[Int.toNat_natCast] at Hl;generalize Lib.bitLen n=bl at*;have Hp:=hid hp;have Hq:=hid hq;have Hs:=hid hsort;have wr:IntKind.u64.wrap (n:Int)=n:=by rw[IntKind.wrap_u64];omega
 clear hs hq hsort hp hH eg hsz hb hl;go_enter Tryz.func121,Tryz.ntmps121;go_wp2_with (first | (go_at_call 162;refine(Hl.out _).mono ?_;rintro e w' ⟨rfl,rfl⟩) | (go_at_call 161;refine Hp.out.mono ?_;rintro e w' ⟨rfl,n,os,rfl⟩));go_end0
 exact⟨rfl,r.toList,_,_,by simpa using Hq.out,Hs.out,rfl⟩
end
section
open Go.RowKit
theorem zcq {w:World} {base g sz:Nat} {e:TypeId} (h:w.heap[g]?=some (.cells #[] e (0,0))) (hb:base≤g):w.ownsRow base e sz (.slice (some ⟨g,0,none⟩) 0 0) 0 []:=
 ⟨by simp,.inr ⟨g,0,#[],rfl,hb,h,Nat.le_refl _,by unfold maxLen;omega,by simp,by simp⟩⟩
theorem yg {w:World} {g sz n:Nat} {e:TypeId} {C:Array Value} {fr:Nat×Nat} {xs:List Value} (h:w.heap[g]?=some (.cells C e fr)) (hC:C=xs.toArray) (hx:xs.length=n*sz):Rd w sz (some ⟨g,0,none⟩) n xs:=by
 subst hC;refine⟨hx,fun _=>⟨g,0,rfl,fun j u hu=>?_⟩⟩;simp only[World.cell?,h];simpa using hu
theorem zg (w:World) (o:Obj) (g:Nat) (h:g=w.heap.size):(w.alloc o).heap[g]?=some o:=by subst h;exact heap_alloc_new w o
theorem yy (w:World) (o v:Obj) (g:Nat) (h:w.heap[g]?=some v):(w.alloc o).heap[g]?=some v:=(Below.heap_alloc w o g (by
 rcases Nat.lt_or_ge g w.heap.size with h' | h'
 · exact h'
 · rw[Array.getElem?_eq_none h'] at h;cases h)).trans h
theorem y9 {w:World} {base b size n:Nat} {e:TypeId} {v:Value} {xs:List Value} (h:w.ownsRow base e size v n xs) (hb:b≤base):w.ownsRow b e size v n xs:=
 ⟨h.1,h.2.imp id fun ⟨g,cap,cur,h1,h2,r⟩=>⟨g,cap,cur,h1,Nat.le_trans hb h2,r⟩⟩
def qh (a b:Iv):Nat:=
 if a.2<b.1 then (if 0<b.1 - a.2 - 1 then (if b.2<a.1 then (if 0<a.1 - b.2 - 1 then 2 else 1) else 0) else (if b.2<a.1 then (if 0<a.1 - b.2 - 1 then 3 else 2) else 1))
 else (if b.2<a.1 then (if 0<a.1 - b.2 - 1 then 4 else 3) else 2)
theorem z0b {k:IntKind} {a b:Int} {x:Value} (h:a=b):Ending.returned (.tuple #[.int k a,x])=.returned (.tuple #[.int k b,x]):=by rw[h]
theorem zgh (a b:Nat) (w:World) (h:a<b) (hb:b<18446744073709551616):
 Calls Tryz.prog 120 #[.int .u64 a,.int .u64 b] w fun e w'=>e=.returned (.tuple #[.int .u64 ((b - a - 1:Nat):Int),.bool true])∧w=w':=by
 have e1:=hid (show IntKind.u64.wrap ((b:Int) - (a:Int))=((b - a:Nat):Int) from by rw[IntKind.wrap_u64];omega);have e2:=hid (show IntKind.u64.wrap (((b - a:Nat):Int) - 1)=((b - a - 1:Nat):Int) from by rw[IntKind.wrap_u64];omega);clear hb;go_enter Tryz.func120,Tryz.ntmps120;go_wp2;go_ret2;refine⟨z0b ?_,rfl⟩;rw[e1.out,e2.out]
theorem zjz (a b:Nat) (w:World) (h:¬a<b):
 Calls Tryz.prog 120 #[.int .u64 a,.int .u64 b] w fun e w'=>e=.returned (.tuple #[.int .u64 0,.bool false])∧w=w':=by
 go_enter Tryz.func120,Tryz.ntmps120;go_wp2;go_ret2;exact⟨rfl,rfl⟩
theorem zqp (s:Iv) (w:World):
 Calls Tryz.prog 153 #[ivV s] w fun e w'=>e=.returned (yl (if s.2<s.1 then some (2,none) else none))∧Below w.heap.size w w':=by
 obtain⟨a,b⟩:=s;by_cases h:b<a
 · rw[if_pos h];simp only[yl];go_enter Tryz.func153,Tryz.ntmps153;go_wp2;go_ret;exact⟨rfl,(Below.refl _ _).alloc (Nat.le_refl _) _⟩
 · rw[if_neg h];simp only[yl];go_enter Tryz.func153,Tryz.ntmps153;go_wp2;go_ret;exact⟨rfl,(Below.refl _ _).alloc (Nat.le_refl _) _⟩
theorem zmv (a b:Iv) (w:World) (ha:a.1<18446744073709551616∧a.2<18446744073709551616) (hb:b.1<18446744073709551616∧b.2<18446744073709551616):
 Calls Tryz.prog 154 #[ivV a,ivV b] w fun e w'=>e=.returned (.int .i64 ((qh a b:Nat):Int))∧Below w.heap.size w w':=by
 obtain⟨x,y⟩:=a;obtain⟨z,u⟩:=b;have hz:=hb.1;have hx:=ha.1;clear ha hb;simp only at hx hz
 have hw:Below w.heap.size w ((w.alloc (.cells #[.int .u64 x,.int .u64 y] 99)).alloc (.cells #[.int .u64 z,.int .u64 u] 99)):=
  ((Below.refl _ _).alloc (Nat.le_refl _) _).alloc (by simp) _
 by_cases h1:y<z
 · have C1:=hid (fun w=>zgh y z w h1 hz);by_cases g1:0<z - y - 1
   · by_cases h2:u<x
     · have C2:=hid (fun w=>zgh u x w h2 hx);by_cases g2:0<x - u - 1
       · have hr:=hid (show qh (x,y) (z,u)=2 from by simp[qh,h1,h2,g1,g2]);generalize qh (x,y) (z,u)=r at*;generalize z - y - 1=p at*;generalize x - u - 1=q at*;clear hx hz h1 h2;go_enter Tryz.func154,Tryz.ntmps154;go_wp2_with fail;refine(C1.out _).mono ?_;rintro e w1 ⟨rfl,rfl⟩;go_wp2_with fail;refine(C2.out _).mono ?_;rintro e w1 ⟨rfl,rfl⟩;go_wp2_with fail;go_ret;exact⟨zau (by rw[hr.out];rfl),hw⟩
       · have hr:=hid (show qh (x,y) (z,u)=1 from by simp[qh,h1,h2,g1,g2]);obtain e2:x - u - 1=0:=by omega
         rw[e2] at C2;clear e2 g2;generalize qh (x,y) (z,u)=r at*;generalize z - y - 1=p at*;clear hx hz h1 h2;go_enter Tryz.func154,Tryz.ntmps154;go_wp2_with fail;refine(C1.out _).mono ?_;rintro e w1 ⟨rfl,rfl⟩;go_wp2_with fail;refine(C2.out _).mono ?_;rintro e w1 ⟨rfl,rfl⟩;go_wp2_with fail;go_ret;exact⟨zau (by rw[hr.out];rfl),hw⟩
     · have C2:=hid (fun w=>zjz u x w h2);have hr:=hid (show qh (x,y) (z,u)=0 from by simp[qh,h1,h2,g1]);generalize qh (x,y) (z,u)=r at*;generalize z - y - 1=p at*;clear hx hz h1 h2;go_enter Tryz.func154,Tryz.ntmps154;go_wp2_with fail;refine(C1.out _).mono ?_;rintro e w1 ⟨rfl,rfl⟩;go_wp2_with fail;refine(C2.out _).mono ?_;rintro e w1 ⟨rfl,rfl⟩;go_wp2_with fail;go_ret;exact⟨zau (by rw[hr.out];rfl),hw⟩
   · have e1:z - y - 1=0:=by omega
     rw[e1] at C1;clear e1;by_cases h2:u<x
     · have C2:=hid (fun w=>zgh u x w h2 hx);by_cases g2:0<x - u - 1
       · have hr:=hid (show qh (x,y) (z,u)=3 from by simp[qh,h1,h2,g1,g2]);generalize qh (x,y) (z,u)=r at*;generalize x - u - 1=q at*;clear hx hz h1 h2;go_enter Tryz.func154,Tryz.ntmps154;go_wp2_with fail;refine(C1.out _).mono ?_;rintro e w1 ⟨rfl,rfl⟩;go_wp2_with fail;refine(C2.out _).mono ?_;rintro e w1 ⟨rfl,rfl⟩;go_wp2_with fail;go_ret;exact⟨zau (by rw[hr.out];rfl),hw⟩
       · have hr:=hid (show qh (x,y) (z,u)=2 from by simp[qh,h1,h2,g1,g2]);obtain e2:x - u - 1=0:=by omega
         rw[e2] at C2;clear e2 g2;generalize qh (x,y) (z,u)=r at*;clear hx hz h1 h2;go_enter Tryz.func154,Tryz.ntmps154;go_wp2_with fail;refine(C1.out _).mono ?_;rintro e w1 ⟨rfl,rfl⟩;go_wp2_with fail;refine(C2.out _).mono ?_;rintro e w1 ⟨rfl,rfl⟩;go_wp2_with fail;go_ret;exact⟨zau (by rw[hr.out];rfl),hw⟩
     · have C2:=hid (fun w=>zjz u x w h2);have hr:=hid (show qh (x,y) (z,u)=1 from by simp[qh,h1,h2,g1]);generalize qh (x,y) (z,u)=r at*;clear hx hz h1 h2;go_enter Tryz.func154,Tryz.ntmps154;go_wp2_with fail;refine(C1.out _).mono ?_;rintro e w1 ⟨rfl,rfl⟩;go_wp2_with fail;refine(C2.out _).mono ?_;rintro e w1 ⟨rfl,rfl⟩;go_wp2_with fail;go_ret;exact⟨zau (by rw[hr.out];rfl),hw⟩
 · have C1:=hid (fun w=>zjz y z w h1);by_cases h2:u<x
   · have C2:=hid (fun w=>zgh u x w h2 hx);by_cases g2:0<x - u - 1
     · have hr:=hid (show qh (x,y) (z,u)=4 from by simp[qh,h1,h2,g2]);generalize qh (x,y) (z,u)=r at*;generalize x - u - 1=q at*;clear hx hz h1 h2;go_enter Tryz.func154,Tryz.ntmps154;go_wp2_with fail;refine(C1.out _).mono ?_;rintro e w1 ⟨rfl,rfl⟩;go_wp2_with fail;refine(C2.out _).mono ?_;rintro e w1 ⟨rfl,rfl⟩;go_wp2_with fail;go_ret;exact⟨zau (by rw[hr.out];rfl),hw⟩
     · have hr:=hid (show qh (x,y) (z,u)=3 from by simp[qh,h1,h2,g2]);obtain e2:x - u - 1=0:=by omega
       rw[e2] at C2;clear e2 g2;generalize qh (x,y) (z,u)=r at*;clear hx hz h1 h2;go_enter Tryz.func154,Tryz.ntmps154;go_wp2_with fail;refine(C1.out _).mono ?_;rintro e w1 ⟨rfl,rfl⟩;go_wp2_with fail;refine(C2.out _).mono ?_;rintro e w1 ⟨rfl,rfl⟩;go_wp2_with fail;go_ret;exact⟨zau (by rw[hr.out];rfl),hw⟩
   · have C2:=hid (fun w=>zjz u x w h2);have hr:=hid (show qh (x,y) (z,u)=2 from by simp[qh,h1,h2]);generalize qh (x,y) (z,u)=r at*;clear hx hz h1 h2;go_enter Tryz.func154,Tryz.ntmps154;go_wp2_with fail;refine(C1.out _).mono ?_;rintro e w1 ⟨rfl,rfl⟩;go_wp2_with fail;refine(C2.out _).mono ?_;rintro e w1 ⟨rfl,rfl⟩;go_wp2_with fail;go_ret;exact⟨zau (by rw[hr.out];rfl),hw⟩
end
end Go.Proofs.YtdnjfnofjaoajaaGreatDoor
