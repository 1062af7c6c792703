/- Part 06. -/
import Derived.Laws.StructEq
import Derived.Test.YtdnipikdddfhfaaGreatDoorWd05
set_option linter.unusedVariables false
set_option maxHeartbeats 16000000
namespace Go.Proofs.YtdnipikdddfhfaaGreatDoor
open Lib (hid)
section
def qj (f:Nat→Bool):List Nat→List (Iv×Bool)
 | []=>[]
 | [a]=>[((a,18446744073709551615),f a)]
 | a :: b :: r=>((a,b - 1),f a) :: qj f (b :: r)
theorem zbx (f:Nat→Bool):∀(l:List Nat),(qj f l).length=l.length
 | []=>rfl
 | [a]=>rfl
 | a :: b :: r=>by rw[qj,List.length_cons,zbx f (b :: r)];rfl
theorem zjc (f:Nat→Bool):∀{a:Nat} {r:List Nat},Asc (a :: r)→(∀x∈a :: r,x<18446744073709551616)→zff 18446744073709551615 a (qj f (a :: r))
 | a,[],h,hl=>⟨rfl,by have:=hl a (by simp);show a≤18446744073709551615;omega,rfl⟩
 | a,[b],h,hl=>by
   have h1:=h.1;have h2:=hl b (by simp);refine⟨rfl,?_,?_,?_⟩
   · show a≤b - 1;omega
   · show b - 1<18446744073709551615;omega
   · show zff _ (b - 1+1) (qj f [b]);rw[show b - 1+1=b by omega]
     exact zjc f (r:=[]) h.tail fun x hx=>hl x (List.mem_cons_of_mem _ hx)
 | a,b :: c :: r,h,hl=>by
   have h1:=h.1;have h2:=hl b (by simp);refine⟨rfl,?_,?_,?_⟩
   · show a≤b - 1;omega
   · show b - 1<18446744073709551615;omega
   · show zff _ (b - 1+1) (qj f (b :: c :: r));rw[show b - 1+1=b by omega];exact zjc f (r:=c :: r) h.tail fun x hx=>hl x (List.mem_cons_of_mem _ hx)
theorem zmq (f:Nat→Bool):∀{a:Nat} {r:List Nat},Asc (a :: r)→(∀x∈a :: r,x<18446744073709551616)→
 (∀c x,a≤c→c≤x→x<18446744073709551616→(∀y∈a :: r,¬(c<y∧y≤x))→f x=f c)→
 ∀x,a≤x→x<18446744073709551616→((qj f (a :: r)).any fun p=>p.2 && (decide (p.1.1≤x) && decide (x≤p.1.2)))=f x
 | a,[],h,hl,hc,x,h1,h2=>by
   have:=hc a x (Nat.le_refl _) h1 h2 (by intro y hy;simp at hy;subst hy;omega)
   simp[qj,this,h1,show x≤18446744073709551615 by omega]
 | a,b :: r,h,hl,hc,x,h1,h2=>by
   have hab:=h.1;rw[qj,List.any_cons];by_cases hx:x<b
   · have e:=hc a x (Nat.le_refl _) h1 h2 (by
      intro y hy;rcases List.mem_cons.1 hy with rfl | hy
      · omega
      · rcases List.mem_cons.1 hy with rfl | hy
        · omega
        · have:=h.tail.lower y hy;omega)
     have rest:((qj f (b :: r)).any fun p=>p.2 && (decide (p.1.1≤x) && decide (x≤p.1.2)))=false:=by
      have lo:∀{b:Nat} {r:List Nat},Asc (b :: r)→∀p∈qj f (b :: r),b≤p.1.1:=by
       intro b r
       induction r generalizing b with
       | nil=>intro _ p hp;simp[qj] at hp;subst hp;exact Nat.le_refl _
       | cons c r ih=>
        intro hA p hp;rw[qj] at hp;rcases List.mem_cons.1 hp with rfl | hp
        · exact Nat.le_refl _
        · have:=ih hA.tail p hp;have:=hA.1;omega
      rw[List.any_eq_false];intro p hp;have:=lo h.tail p hp;simp;omega
     rw[rest,Bool.or_false,e];simp[h1,show x≤b - 1 by omega]
   · have ih:=zmq f h.tail (fun y hy=>hl y (List.mem_cons_of_mem _ hy)) (by
      intro c z hc1 hc2 hc3 hc4;refine hc c z (by omega) hc2 hc3 ?_;intro y hy;rcases List.mem_cons.1 hy with rfl | hy
      · omega
      · exact hc4 y hy) x (by omega) h2
     rw[ih];have:decide (x≤b - 1)=false:=by rw[decide_eq_false_iff_not];omega
     simp[this]
theorem zmr (f:Nat→Bool):∀{l:List Nat},(∀x∈l,x<18446744073709551616)→∀p∈qj f l,p.1.2<18446744073709551616
 | [],_,p,hp=>by simp[qj] at hp
 | [a],_,p,hp=>by simp[qj] at hp;subst hp;simp
 | a :: b :: r,h,p,hp=>by
   rw[qj] at hp;rcases List.mem_cons.1 hp with rfl | hp
   · have:=h b (by simp);simp only;omega
   · exact zmr f (fun x hx=>h x (List.mem_cons_of_mem _ hx)) p hp
theorem zu4 {f:Nat→Bool} {L:List Nat} (h:Asc L) (hl:∀x∈L,x<18446744073709551616) (h0:0∈L)
 (hc:∀c x,c≤x→x<18446744073709551616→(∀y∈L,¬(c<y∧y≤x))→f x=f c) (ht:∀x,18446744073709551616≤x→f x=false):
 Good (jx (qj f L) [])∧∀x,mem (jx (qj f L) []) x=f x:=by
 cases L with
 | nil=>simp at h0
 | cons a r=>
  have ha:a=0:=by
   rcases List.mem_cons.1 h0 with e | e
   · exact e.symm
   · have:=h.lower 0 e;omega
  subst ha;obtain⟨g1,g2⟩:=ziy (out:=[]) (zjc f h hl) trivial (by simp);refine⟨g1,fun x=>?_⟩;rw[g2,zb9,Bool.false_or];by_cases hx:x<18446744073709551616
  · exact zmq f h hl (fun c z _=>hc c z) x (Nat.zero_le _) hx
  · rw[ht x (by omega),List.any_eq_false];intro p hp;have:=zmr f hl p hp;simp;omega
theorem zdr {l:List Iv} (hl:∀t∈l,t.1<18446744073709551616∧t.2<18446744073709551616) {c x:Nat} (hcx:c≤x) (hx:x<18446744073709551616) (h:∀y∈y7 l,¬(c<y∧y≤x)):mem l x=mem l c:=by
 have hb:∀s∈l,∀y∈bnd s,y∈y7 l:=fun s hs y hy=>List.mem_flatMap.2 ⟨s,hs,hy⟩
 rw[Bool.eq_iff_iff,mem_iff,mem_iff];constructor
 · rintro⟨s,hs,h1,h2⟩;refine⟨s,hs,?_,by omega⟩;have:=h s.1 (hb s hs s.1 (by simp[bnd]));omega
 · rintro⟨s,hs,h1,h2⟩;refine⟨s,hs,by omega,?_⟩;refine Nat.le_of_not_lt fun hlt=>?_
   have:=h (s.2+1) (hb s hs _ (by unfold bnd;rw[if_pos (by omega)];simp));omega
theorem zfk {l:List Iv} (hl:∀t∈l,t.1<18446744073709551616∧t.2<18446744073709551616) {x:Nat} (hx:18446744073709551616≤x):mem l x=false:=by
 rw[zdl];intro s hs;have:=hl s hs;omega
theorem zfl {l:List Iv} (hl:∀t∈l,t.1<18446744073709551616∧t.2<18446744073709551616):∀y∈y7 l,y<18446744073709551616:=by
 intro y hy;obtain⟨s,hs,hy⟩:=List.mem_flatMap.1 hy;have:=hl s hs;unfold bnd at hy;split at hy <;> simp at hy <;> omega
theorem zms:∀(a b:List (Iv×Bool)) (out:List Iv),jx (a++b) out=jx b (jx a out)
 | [],b,out=>rfl
 | (s,t) :: a,b,out=>by rw[List.cons_append,jx,jx,zms a b]
theorem zeo (f:Nat→Bool):∀{l:List Nat} {i:Nat},i<l.length→(qj f l)[i]?=some ((if i+1<l.length then (nth l i,nth l (i+1) - 1) else (nth l i,18446744073709551615)),f (nth l i))
 | [],i,h=>by simp at h
 | [a],i,h=>by
   have:i=0:=by simpa using h
   subst this
   simp[qj,nth]
 | a :: b :: r,0,h=>by simp[qj,nth]
 | a :: b :: r,i+1,h=>by
   have:=zeo f (l:=b :: r) (i:=i) (by simpa using h);rw[qj,List.getElem?_cons_succ,this];have e1:nth (a :: b :: r) (i+1)=nth (b :: r) i:=rfl;have e2:nth (a :: b :: r) (i+1+1)=nth (b :: r) (i+1):=rfl;rw[e1,e2];simp only[List.length_cons,Nat.add_lt_add_iff_right]
theorem zjd:∀{ps:List (Iv×Bool)} {out:List Iv},(∀p∈ps,p.1.1<18446744073709551616∧p.1.2<18446744073709551616)→(∀t∈out,t.1<18446744073709551616∧t.2<18446744073709551616)→∀t∈jx ps out,t.1<18446744073709551616∧t.2<18446744073709551616
 | [],out,_,ho,t,ht=>ho t ht
 | (s,b) :: ps,out,h,ho,t,ht=>by
   rw[jx] at ht;refine zjd (fun p hp=>h p (List.mem_cons_of_mem _ hp)) ?_ t ht;have hs:=h _ (List.mem_cons_self ..);simp only at hs
   cases b with
   | false=>exact ho
   | true=>
    intro u hu;rw[if_pos rfl] at hu;rcases zca out with rfl | ⟨a,v,rfl⟩
    · simp[zel] at hu;subst hu;exact hs
    · have hv:=ho v (by simp);rw[zdm] at hu;split at hu
      · rcases List.mem_append.1 hu with hu | hu
        · exact ho u (by simp[hu])
        · simp at hu;subst hu;exact⟨hv.1,hs.2⟩
      · rcases List.mem_append.1 hu with hu | hu
        · exact ho u hu
        · simp at hu;subst hu;exact hs
theorem zmt:∀(ps:List (Iv×Bool)) (out:List Iv),(jx ps out).length≤out.length+ps.length
 | [],out=>Nat.le_refl _
 | (s,b) :: ps,out=>by
   rw[jx];refine Nat.le_trans (zmt ps _) ?_;rw[List.length_cons]
   have:(zbv out s).length≤out.length+1:=by
    rcases zca out with rfl | ⟨a,v,rfl⟩
    · simp[zel]
    · rw[zdm];split <;> simp
   split <;> omega
def zds (l:List Iv):Prop:=∀i j,i<j→j<l.length→(za l i).1≤(za l j).1
theorem zu5 (f:Nat→Bool) {L:List Nat} {i:Nat} (h:i<L.length):(qj f L)[i]?=some (zdn L i,f (nth L i)):=by
 rw[zeo f h];unfold zdn
 rfl
end
section
open Go.RowKit
def Rd (w:World) (sz:Nat) (A:Option Addr) (n:Nat) (xs:List Value):Prop:=
 xs.length=n*sz∧(0<n→∃b o,A=some ⟨b,o,none⟩∧∀j u,xs[j]?=some u→w.cell? ⟨b,o+j,none⟩=some u)
theorem Rd.below {w w':World} {sz n:Nat} {A:Option Addr} {xs:List Value} (h:Rd w sz A n xs) (hb:Below w.heap.size w w'):Rd w' sz A n xs:=
 ⟨h.1,fun hn=>by
  obtain⟨b,o,e,hc⟩:=h.2 hn;refine⟨b,o,e,fun j u hu=>?_⟩;have:=hc j u hu;exact(hb.cell (p:=⟨b,o+j,none⟩) (zh this)).trans this⟩
theorem Rd.own {w:World} {base sz n c:Nat} {e:TypeId} {A:Option Addr} {xs:List Value} (h:w.ownsRow base e sz (.slice A n c) n xs):Rd w sz A n xs:=by
 refine⟨h.1,fun hn=>?_⟩;obtain⟨g,cap,hv,_,hlt⟩:=h.form hn;have hA:A=some ⟨g,0,none⟩:=by injection hv
 subst hA;refine⟨g,0,rfl,fun j u hu=>?_⟩;have:=h.cells (g:=g) rfl j u hu;rwa [yk] at this
theorem Rd.news {w:World} {sz n:Nat} {x:Addr} {xs:List Value} (h:Rd w sz (some x) n xs) (hz:0<sz):∀j u,xs[j]?=some u→w.cell? (x.add j)=some u:=by
 intro j u hu
 have hn:0<n:=by
  refine Nat.pos_of_ne_zero fun h0=>?_
  subst h0;have:xs=[]:=List.eq_nil_of_length_eq_zero (by simpa using h.1);rw[this] at hu;simp at hu
 obtain⟨b,o,e,hc⟩:=h.2 hn;cases e;rw[yk];exact hc j u hu
theorem zu6 {P:Program} (w:World) (base:Nat) (t ty e:TypeId) (i:TypeInfo) (size:Nat) (ht:P.underlying t=some (.slice e)) (hi:P.info? e=some i)
 (v:Value) (n:Nat) (xs:List Value) (hown:w.ownsRow base e size v n xs) (c:Nat):(Builtin.append_ #[t,t] ty #[v,.slice none 0 c]).run P w=.ok v w:=by
 rcases hown.2 with ⟨rfl,rfl⟩ | ⟨g,cap,cur,rfl,_,_,hnc,_⟩
 · simp[Builtin.append_,run_underlying ht,sizeOf,typeInfo,hi,Builtin.lenOf,Builtin.firstCells]
 · simp[Builtin.append_,run_underlying ht,sizeOf,typeInfo,hi,Builtin.lenOf,Builtin.firstCells,hnc,storeCells]
theorem zbi {P:Program} {w:World} (base:Nat) (t ty e:TypeId) (z:Value) (size bytes:Nat) (ht:P.underlying t=some (.slice e))
 (hinfo:(P.info? e).map (fun i=>(i.zero,i.size,i.bytes))=some (some z,size,bytes)) (hzs:z.cells.size=size) (hsz:0<size)
 (v:Value) (n:Nat) (xs:List Value) (hown:w.ownsRow base e size v n xs) (A:Option Addr) (m c:Nat) (news:List Value) (hr:Rd w size A m news) (h1:∀u∈news,u.oneCell'=true)
 (hlen:n+m≤maxLen) (hbytes:(n+m)*bytes≤140737488355328) (hbase:base≤w.heap.size):
 ∃v' w',(Builtin.append_ #[t,t] ty #[v,.slice A m c]).run P w=.ok v' w'∧w'.ownsRow base e size v' (n+m) (xs++news)∧w.grownBy w' v.ownBlock:=by
 obtain⟨i,hi,hz,hs,hby⟩:=info_parts hinfo;rcases A with _ | x
 · have hm:m=0:=by
    rcases Nat.eq_zero_or_pos m with h0 | h0
    · exact h0
    · obtain⟨b,o,h,_⟩:=hr.2 h0;cases h
   subst hm;have hn:news=[]:=List.eq_nil_of_length_eq_zero (by simpa using hr.1);subst hn;exact⟨v,w,zu6 w base t ty e i size ht hi v n xs hown c,by simpa using hown,World.grownBy.refl w _⟩
 · obtain⟨v',w',hrun,ho,hg,_⟩:=run_append_own (P:=P) w base t ty e i z size bytes ht hi hz hs hby hzs hsz v n xs hown x m c news hr.1 (hr.news hsz) h1 hlen hbytes hbase;exact⟨v',w',hrun,ho,hg⟩
theorem zfm {P:Program} {w:World} {ops:Array Oper} {o:Oper} {a:Act} {K:Act→World→Prop} {Q:Exit→Act→World→Prop} {E:Prop} (hgd:o.guard=none) (s x:Operand) (t:TypeId)
 (ho:o.op=.call { callee:=.builtin .append,args:= #[s,x],argTypes:= #[t,t] })
 (v u:Value) (hs:a.eval s=v) (hx:a.eval x=u) (v':Value) (w':World) (hrun:(Builtin.append_ #[t,t] o.type #[v,u]).run P w=.ok v' w')
 (h:K (a.put o.dst v') w'):if Region.wanted o (yielded ops a.tmps)=true then Oper.wp P o a w K Q else E:=by
 have hw:Region.wanted o (yielded ops a.tmps)=true:=by simp[Region.wanted,hgd]
 rw[if_pos hw];unfold Oper.wp;simp[execOp,ho,resolve,invoke,builtin,hs,hx,hrun,Result.andThen];exact h
structure U64s (w:World) (a:Option Addr) (n cap:Nat) (l:List Nat):Prop where
 len:l.length=n
 lt:∀x∈l,x<18446744073709551616
 room:n≤cap
 most:cap≤9223372036854775807
 nilc:a=none→cap=0
 cells:0<n→∃b o,a=some ⟨b,o,none⟩∧∀i,i<n→w.cell? ⟨b,o+i,none⟩=some (.int .u64 ((nth l i:Nat):Int))
def zo (l:List Nat):List Value:=l.map fun x=>Value.int .u64 ((x:Nat):Int)
theorem zu7 (a b:List Nat):zo (a++b)=zo a++zo b:=by simp[zo]
theorem zep (a:List Nat):(zo a).length=a.length:=by simp[zo]
theorem zdt (l:List Nat) (i:Nat) (h:i<l.length):(zo l)[i]?=some (.int .u64 ((nth l i:Nat):Int)):=by simp[zo,nth,h]
theorem zmu (l:List Nat):∀u∈zo l,u.oneCell'=true:=by
 intro u hu;simp only[zo,List.mem_map] at hu;obtain⟨x,_,rfl⟩:=hu
 rfl
theorem U64s.below {w w':World} {a:Option Addr} {n cap:Nat} {l:List Nat} (h:U64s w a n cap l) (hb:Below w.heap.size w w'):U64s w' a n cap l:=by
 refine⟨h.len,h.lt,h.room,h.most,h.nilc,fun hn=>?_⟩;obtain⟨b,o,ha,hc⟩:=h.cells hn;refine⟨b,o,ha,fun i hi=>?_⟩;have:=hc i hi;exact(hb.cell (p:=⟨b,o+i,none⟩) (zh this)).trans this
theorem U64s.rd {w:World} {a:Option Addr} {n cap:Nat} {l:List Nat} (h:U64s w a n cap l):Rd w 1 a n (zo l):=by
 refine⟨by rw[zep,h.len];omega,fun hn=>?_⟩;obtain⟨b,o,e,hc⟩:=h.cells hn;refine⟨b,o,e,fun j u hu=>?_⟩
 have hj:j<l.length:=by
  rcases Nat.lt_or_ge j l.length with h' | h'
  · exact h'
  · rw[List.getElem?_eq_none (by rw[zep];exact h')] at hu;cases hu
 rw[zdt l j hj] at hu;cases hu;exact hc j (by rw[←h.len];exact hj)
theorem zco {w:World} {base n:Nat} {T:TypeId} {v:Value} {l:List Nat} (h:w.ownsRow base T 1 v n (zo l)) (hl:∀x∈l,x<18446744073709551616):∃a cap,v=.slice a n cap∧U64s w a n cap l:=by
 have hlen:l.length=n:=by have:=h.1;rw[zep] at this;omega
 rcases h.2 with ⟨rfl,rfl⟩ | ⟨g,cap,cur,rfl,hg,hh,hnc,hcm,_⟩
 · exact⟨none,0,rfl,hlen,hl,by omega,by omega,fun _=>rfl,fun h=>by omega⟩
 · refine⟨_,_,rfl,hlen,hl,hnc,by unfold maxLen at hcm;omega,(by intro h;cases h),fun hn=>⟨g,0,rfl,fun i hi=>?_⟩⟩;have hc:=h.cells (g:=g) rfl i (.int .u64 ((nth l i:Nat):Int)) (zdt l i (by omega));rw[yk] at hc;exact hc
theorem Ivs.rd {w:World} {a:Option Addr} {n cap:Nat} {l:List Iv} (h:Ivs w a n cap l):Rd w 2 a n (ivC l):=by
 refine⟨by rw[zfj,h.len],fun hn=>?_⟩;obtain⟨b,o,e,hc⟩:=h.cells hn;refine⟨b,o,e,fun j u hu=>?_⟩
 have hj:j<l.length*2:=by
  rcases Nat.lt_or_ge j (l.length*2) with h' | h'
  · exact h'
  · rw[List.getElem?_eq_none (by rw[zfj];exact h')] at hu;cases hu
 have hi:j / 2<l.length:=by omega
 obtain⟨e1,e2⟩:=zen l (j / 2) hi;obtain⟨c1,c2⟩:=hc (j / 2) (by rw[←h.len];exact hi);rcases Nat.mod_two_eq_zero_or_one j with hm | hm
 · rw[show j / 2*2=j by omega] at e1 c1;rw[e1] at hu;cases hu;exact c1
 · rw[show j / 2*2+1=j by omega] at e2;rw[show o+j / 2*2+1=o+j by omega] at c2;rw[e2] at hu;cases hu;exact c2
theorem Tryz.info_u64:(Tryz.prog.info? 43).map (fun i=>(i.zero,i.size,i.bytes))=some (some (.int .u64 0),1,8):=by kernel_rfl
theorem Tryz.info_iv:(Tryz.prog.info? 89).map (fun i=>(i.zero,i.size,i.bytes))=some (some (.agg #[.int .u64 0,.int .u64 0]),2,16):=by kernel_rfl
theorem zeq {w:World} (base:Nat) (v:Value) (n:Nat) (xs:List Nat) (hown:w.ownsRow base 43 1 v n (zo xs)) (A:Option Addr) (m c:Nat) (l:List Nat) (hr:Rd w 1 A m (zo l)) (hb:n+m≤1000000000000) (hbase:base≤w.heap.size):
 ∃v' w',(Builtin.append_ #[41,41] 41 #[v,.slice A m c]).run Tryz.prog w=.ok v' w'∧w'.ownsRow base 43 1 v' (n+m) (zo (xs++l))∧w.grownBy w' v.ownBlock:=by
 rw[zu7];exact zbi base _ _ _ _ 1 8 Tryz.underlying41 Tryz.info_u64 rfl (by omega) v n _ hown A m c _ hr (zmu l) (by unfold maxLen;omega) (by omega) hbase
theorem zcp {w:World} (base:Nat) (v:Value) (n:Nat) (xs:List Iv) (hown:w.ownsRow base 89 2 v n (ivC xs)) (A:Option Addr) (m c:Nat) (l:List Iv) (hr:Rd w 2 A m (ivC l)) (hb:n+m≤1000000) (hbase:base≤w.heap.size):
 ∃v' w',(Builtin.append_ #[91,91] 91 #[v,.slice A m c]).run Tryz.prog w=.ok v' w'∧w'.ownsRow base 89 2 v' (n+m) (ivC (xs++l))∧w.grownBy w' v.ownBlock:=by
 rw[zja];exact zbi base _ _ _ _ 2 16 Tryz.underlying91 Tryz.info_iv rfl (by omega) v n _ hown A m c _ hr (zmn l) (by unfold maxLen;omega) (by omega) hbase
theorem zdu {w:World} {sz:Nat} (C:Array Value) (T:TypeId) (fr:Nat×Nat) (n:Nat) (xs:List Value) (hC:C=xs.toArray) (hx:xs.length=n*sz):Rd (w.alloc (.cells C T fr)) sz (some ⟨w.heap.size,0,none⟩) n xs:=by
 subst hC;refine⟨hx,fun _=>⟨w.heap.size,0,rfl,fun j u hu=>?_⟩⟩;rw[World.cell?_alloc_mark];simpa using hu
structure Rls (w:World) (a:Option Addr) (n cap:Nat) (ls:List (List Iv)):Prop where
 len:ls.length=n
 room:n≤cap
 most:cap≤9223372036854775807
 nilc:a=none→cap=0
 cells:0<n→∃b o,a=some ⟨b,o,none⟩∧∀i,i<n→∃A c,w.cell? ⟨b,o+i,none⟩=some (.slice A (ls.getD i []).length c)∧Ivs w A (ls.getD i []).length c (ls.getD i [])
theorem Rls.below {w w':World} {a:Option Addr} {n cap:Nat} {ls:List (List Iv)} (h:Rls w a n cap ls) (hb:Below w.heap.size w w'):Rls w' a n cap ls:=by
 refine⟨h.len,h.room,h.most,h.nilc,fun hn=>?_⟩;obtain⟨b,o,ha,hc⟩:=h.cells hn;refine⟨b,o,ha,fun i hi=>?_⟩;obtain⟨A,c,h1,h2⟩:=hc i hi;exact⟨A,c,(hb.cell (p:=⟨b,o+i,none⟩) (zh h1)).trans h1,h2.below hb⟩
theorem zmv {w:World} {ops:Array Oper} {o:Oper} {a:Act} {K:Act→World→Prop} {Q:Exit→Act→World→Prop} {E:Prop} (hgd:o.guard=none) (s x:Operand)
 (ho:o.op=.call { callee:=.builtin .append,args:= #[s,x],argTypes:= #[41,41] }) (hty:o.type=41)
 (base:Nat) (v:Value) (n:Nat) (xs:List Nat) (hs:a.eval s=v) (hown:w.ownsRow base 43 1 v n (zo xs)) (A:Option Addr) (m c:Nat) (l:List Nat) (hx:a.eval x=.slice A m c) (hr:Rd w 1 A m (zo l)) (hb:n+m≤1000000000000) (hbase:base≤w.heap.size)
 (h:∀v' w',w'.ownsRow base 43 1 v' (n+m) (zo (xs++l))→w.grownBy w' v.ownBlock→K (a.put o.dst v') w'):
 if Region.wanted o (yielded ops a.tmps)=true then Oper.wp Tryz.prog o a w K Q else E:=by
 obtain⟨v',w',hrun,h1,h2⟩:=zeq base v n xs hown A m c l hr hb hbase;exact zfm hgd s x _ ho _ _ hs hx v' w' (by rw[hty];exact hrun) (h v' w' h1 h2)
def yo (a b:Iv):Nat:=
 if a.2<b.1 then (if 0<b.1 - a.2 - 1 then (if b.2<a.1 then (if 0<a.1 - b.2 - 1 then 2 else 1) else 0) else (if b.2<a.1 then (if 0<a.1 - b.2 - 1 then 3 else 2) else 1))
 else (if b.2<a.1 then (if 0<a.1 - b.2 - 1 then 4 else 3) else 2)
theorem zu8 {k:IntKind} {a b:Int} {x:Value} (h:a=b):Ending.returned (.tuple #[.int k a,x])=.returned (.tuple #[.int k b,x]):=by rw[h]
theorem zer (a b:Nat) (w:World) (h:a<b) (hb:b<18446744073709551616):
 Calls Tryz.prog 128 #[.int .u64 a,.int .u64 b] w fun e w'=>e=.returned (.tuple #[.int .u64 ((b - a - 1:Nat):Int),.bool true])∧w=w':=by
 have e1:=hid (show IntKind.u64.wrap ((b:Int) - (a:Int))=((b - a:Nat):Int) from by rw[IntKind.wrap_u64];omega);have e2:=hid (show IntKind.u64.wrap (((b - a:Nat):Int) - 1)=((b - a - 1:Nat):Int) from by rw[IntKind.wrap_u64];omega);clear hb;go_enter Tryz.func128,Tryz.ntmps128;go_wp2;go_ret2;refine⟨zu8 ?_,rfl⟩;rw[e1.out,e2.out]
theorem zgv (a b:Nat) (w:World) (h:¬a<b):
 Calls Tryz.prog 128 #[.int .u64 a,.int .u64 b] w fun e w'=>e=.returned (.tuple #[.int .u64 0,.bool false])∧w=w':=by
 go_enter Tryz.func128,Tryz.ntmps128;go_wp2;go_ret2;exact⟨rfl,rfl⟩
theorem zmw (s:Iv) (w:World):
 Calls Tryz.prog 168 #[ivV s] w fun e w'=>e=.returned (yt (if s.2<s.1 then some (2,none) else none))∧Below w.heap.size w w':=by
 obtain⟨a,b⟩:=s;by_cases h:b<a
 · rw[if_pos h];simp only[yt];go_enter Tryz.func168,Tryz.ntmps168;go_wp2;go_ret;exact⟨rfl,(Below.refl _ _).alloc (Nat.le_refl _) _⟩
 · rw[if_neg h];simp only[yt];go_enter Tryz.func168,Tryz.ntmps168;go_wp2;go_ret;exact⟨rfl,(Below.refl _ _).alloc (Nat.le_refl _) _⟩
theorem zje (a b:Iv) (w:World) (ha:a.1<18446744073709551616∧a.2<18446744073709551616) (hb:b.1<18446744073709551616∧b.2<18446744073709551616):
 Calls Tryz.prog 169 #[ivV a,ivV b] w fun e w'=>e=.returned (.int .i64 ((yo a b:Nat):Int))∧Below w.heap.size w w':=by
 obtain⟨x,y⟩:=a;obtain⟨z,u⟩:=b;have hz:=hb.1;have hx:=ha.1;clear ha hb;simp only at hx hz
 have hw:Below w.heap.size w ((w.alloc (.cells #[.int .u64 x,.int .u64 y] 89)).alloc (.cells #[.int .u64 z,.int .u64 u] 89)):=
  ((Below.refl _ _).alloc (Nat.le_refl _) _).alloc (by simp) _
 by_cases h1:y<z
 · have C1:=hid (fun w=>zer y z w h1 hz);by_cases g1:0<z - y - 1
   · by_cases h2:u<x
     · have C2:=hid (fun w=>zer u x w h2 hx);by_cases g2:0<x - u - 1
       · have hr:=hid (show yo (x,y) (z,u)=2 from by simp[yo,h1,h2,g1,g2]);generalize yo (x,y) (z,u)=r at*;generalize z - y - 1=p at*;generalize x - u - 1=q at*;clear hx hz h1 h2;go_enter Tryz.func169,Tryz.ntmps169;go_wp2_with fail;refine(C1.out _).mono ?_;rintro e w1 ⟨rfl,rfl⟩;go_wp2_with fail;refine(C2.out _).mono ?_;rintro e w1 ⟨rfl,rfl⟩;go_wp2_with fail;go_ret;exact⟨zbc (by rw[hr.out];rfl),hw⟩
       · have hr:=hid (show yo (x,y) (z,u)=1 from by simp[yo,h1,h2,g1,g2]);obtain e2:x - u - 1=0:=by omega
         rw[e2] at C2;clear e2 g2;generalize yo (x,y) (z,u)=r at*;generalize z - y - 1=p at*;clear hx hz h1 h2;go_enter Tryz.func169,Tryz.ntmps169;go_wp2_with fail;refine(C1.out _).mono ?_;rintro e w1 ⟨rfl,rfl⟩;go_wp2_with fail;refine(C2.out _).mono ?_;rintro e w1 ⟨rfl,rfl⟩;go_wp2_with fail;go_ret;exact⟨zbc (by rw[hr.out];rfl),hw⟩
     · have C2:=hid (fun w=>zgv u x w h2);have hr:=hid (show yo (x,y) (z,u)=0 from by simp[yo,h1,h2,g1]);generalize yo (x,y) (z,u)=r at*;generalize z - y - 1=p at*;clear hx hz h1 h2;go_enter Tryz.func169,Tryz.ntmps169;go_wp2_with fail;refine(C1.out _).mono ?_;rintro e w1 ⟨rfl,rfl⟩;go_wp2_with fail;refine(C2.out _).mono ?_;rintro e w1 ⟨rfl,rfl⟩;go_wp2_with fail;go_ret;exact⟨zbc (by rw[hr.out];rfl),hw⟩
   · have e1:z - y - 1=0:=by omega
     rw[e1] at C1;clear e1;by_cases h2:u<x
     · have C2:=hid (fun w=>zer u x w h2 hx);by_cases g2:0<x - u - 1
       · have hr:=hid (show yo (x,y) (z,u)=3 from by simp[yo,h1,h2,g1,g2]);generalize yo (x,y) (z,u)=r at*;generalize x - u - 1=q at*;clear hx hz h1 h2;go_enter Tryz.func169,Tryz.ntmps169;go_wp2_with fail;refine(C1.out _).mono ?_;rintro e w1 ⟨rfl,rfl⟩;go_wp2_with fail;refine(C2.out _).mono ?_;rintro e w1 ⟨rfl,rfl⟩;go_wp2_with fail;go_ret;exact⟨zbc (by rw[hr.out];rfl),hw⟩
       · have hr:=hid (show yo (x,y) (z,u)=2 from by simp[yo,h1,h2,g1,g2]);obtain e2:x - u - 1=0:=by omega
         rw[e2] at C2;clear e2 g2;generalize yo (x,y) (z,u)=r at*;clear hx hz h1 h2;go_enter Tryz.func169,Tryz.ntmps169;go_wp2_with fail;refine(C1.out _).mono ?_;rintro e w1 ⟨rfl,rfl⟩;go_wp2_with fail;refine(C2.out _).mono ?_;rintro e w1 ⟨rfl,rfl⟩;go_wp2_with fail;go_ret;exact⟨zbc (by rw[hr.out];rfl),hw⟩
     · have C2:=hid (fun w=>zgv u x w h2);have hr:=hid (show yo (x,y) (z,u)=1 from by simp[yo,h1,h2,g1]);generalize yo (x,y) (z,u)=r at*;clear hx hz h1 h2;go_enter Tryz.func169,Tryz.ntmps169;go_wp2_with fail;refine(C1.out _).mono ?_;rintro e w1 ⟨rfl,rfl⟩;go_wp2_with fail;refine(C2.out _).mono ?_;rintro e w1 ⟨rfl,rfl⟩;go_wp2_with fail;go_ret;exact⟨zbc (by rw[hr.out];rfl),hw⟩
 · have C1:=hid (fun w=>zgv y z w h1);by_cases h2:u<x
   · have C2:=hid (fun w=>zer u x w h2 hx);by_cases g2:0<x - u - 1
     · have hr:=hid (show yo (x,y) (z,u)=4 from by simp[yo,h1,h2,g2]);generalize yo (x,y) (z,u)=r at*;generalize x - u - 1=q at*;clear hx hz h1 h2;go_enter Tryz.func169,Tryz.ntmps169;go_wp2_with fail;refine(C1.out _).mono ?_;rintro e w1 ⟨rfl,rfl⟩;go_wp2_with fail;refine(C2.out _).mono ?_;rintro e w1 ⟨rfl,rfl⟩;go_wp2_with fail;go_ret;exact⟨zbc (by rw[hr.out];rfl),hw⟩
     · have hr:=hid (show yo (x,y) (z,u)=3 from by simp[yo,h1,h2,g2]);obtain e2:x - u - 1=0:=by omega
       rw[e2] at C2;clear e2 g2;generalize yo (x,y) (z,u)=r at*;clear hx hz h1 h2;go_enter Tryz.func169,Tryz.ntmps169;go_wp2_with fail;refine(C1.out _).mono ?_;rintro e w1 ⟨rfl,rfl⟩;go_wp2_with fail;refine(C2.out _).mono ?_;rintro e w1 ⟨rfl,rfl⟩;go_wp2_with fail;go_ret;exact⟨zbc (by rw[hr.out];rfl),hw⟩
   · have C2:=hid (fun w=>zgv u x w h2);have hr:=hid (show yo (x,y) (z,u)=2 from by simp[yo,h1,h2]);generalize yo (x,y) (z,u)=r at*;clear hx hz h1 h2;go_enter Tryz.func169,Tryz.ntmps169;go_wp2_with fail;refine(C1.out _).mono ?_;rintro e w1 ⟨rfl,rfl⟩;go_wp2_with fail;refine(C2.out _).mono ?_;rintro e w1 ⟨rfl,rfl⟩;go_wp2_with fail;go_ret;exact⟨zbc (by rw[hr.out];rfl),hw⟩
theorem zu9 (x y z u:Nat) (w:World):(Op.equalIn 10000 89 (.agg #[.int .u64 (x:Int),.int .u64 (y:Int)]) (.agg #[.int .u64 (z:Int),.int .u64 (u:Int)])).run Tryz.prog w=.ok (decide (x=z) && decide (y=u)) w:=by
 have u3:=Tryz.underlying43;have a3:∀w,(isAgg 43).run Tryz.prog w=.ok false w:=fun w=>by simp[isAgg,run_underlying u3]
 have z3:∀w,(sizeOf 43).run Tryz.prog w=.ok 1 w:=fun w=>by kernel_rfl
 have hS:Tryz.prog.underlying 89=some (.struct (Tryz.prog.fieldsOf 89)):=by kernel_rfl
 have hp:Tryz.prog.stoodInHeld 89=false:=by kernel_rfl
 rw[show (10000:Nat)=9999+1 from rfl,run_equalIn_agg w 9999 89 _ _ hS hp];simp only[Program.fieldsOf,Tryz.underlying89];go_simp;by_cases h1:x=z <;> by_cases h2:y=u <;> simp[h1,h2] <;> omega
theorem zva {l l':List Iv} {k:Nat} (h:l.take k=l'.take k) (hk:k<l.length) (hk':k<l'.length) (e:za l k=za l' k):l.take (k+1)=l'.take (k+1):=by
 rw[List.take_succ_eq_append_getElem hk,List.take_succ_eq_append_getElem hk',h,←yw hk,←yw hk',e]
theorem zvb {l l':List Iv} {k:Nat} (e:za l k≠za l' k):l≠l':=fun h=>e (by rw[h])
theorem zmx (a a':Option Addr) (n cap n' cap':Nat) (l l':List Iv) (w:World) (hI:Ivs w a n cap l) (hI':Ivs w a' n' cap' l'):
 Calls Tryz.prog 59 #[.slice a n cap,.slice a' n' cap'] w fun e w'=>e=.returned (.bool (decide (l=l')))∧Below w.heap.size w w':=by
 have HI:=hid hI;have HI':=hid hI';have Hl:=hid hI.len;have Hl':=hid hI'.len;have hm:n≤9223372036854775807:=Nat.le_trans hI.room hI.most;by_cases hnn:n=n'
 · subst hnn;clear hI hI';have hnb:((n:Int) != (n:Int))=false:=by simp
   go_enter Tryz.func59,Tryz.ntmps59;go_wp2;go_loopw [5] (fun i wr=>∃k q:Nat,k≤n∧i=.int .i64 k∧wr=w.drewN q∧Hid (l.take k=l'.take k)) (fun i _=>n - (intOf i).toNat)
   case atStart=>exact⟨0,0,by omega,rfl,rfl,rfl⟩
   case round=>
    obtain⟨k,q,hk,rfl,rfl,ht⟩:=hrel;by_cases hkn:k<n
    · obtain⟨cb,co,rfl,hcell⟩:=HI.out.cells (by omega);obtain⟨cb',co',rfl,hcell'⟩:=HI'.out.cells (by omega);obtain⟨c1,c2⟩:=hcell k hkn;obtain⟨c1',c2'⟩:=hcell' k hkn;clear hcell hcell';have h0:(0:Int)≤k:=by omega
      have h04:(k:Int)<(n:Int):=by omega
      have hkl:k<l.length:=by rw[Hl.out];exact hkn
      have hkl':k<l'.length:=by rw[Hl'.out];exact hkn
      have He:=hid (fun e=>zva ht.out hkl hkl' e);have Hn:=hid (fun e=>zvb (l:=l) (l':=l') (k:=k) e);clear hkl hkl';generalize za l k=s at*;generalize za l' k=t at*;obtain⟨x,y⟩:=s;obtain⟨z,u⟩:=t;have heq:=zu9 x y z u;simp only at c1 c2 c1' c2';by_cases e:x=z∧y=u
      · obtain⟨rfl,rfl⟩:=e;have Ht:=hid (He.out rfl);simp only[decide_true,Bool.and_self] at heq;clear He Hn;go_wp2;go_quiet (fail);go_wp2;go_roundw
        case rel=>exact⟨k+1,_,by omega,by go_num,rfl,Ht.out⟩
        case measure=>simp[intOf];omega
      · have Hne:=hid (Hn.out (by intro h;cases h;exact e ⟨rfl,rfl⟩))
        have eb:(decide (x=z) && decide (y=u))=false:=by
         rw[Bool.eq_false_iff];intro h;rw[Bool.and_eq_true,decide_eq_true_iff,decide_eq_true_iff] at h;exact e h
        simp only[eb] at heq;clear He Hn eb e;go_wp2;go_quiet (fail);go_wp2;go_ret;exact⟨zdq (by rw[decide_eq_false Hne.out]),by first | exact zy (Below.refl _ _) _ | exact zy (zy (Below.refl _ _) _) _⟩
    · obtain rfl:k=n:=by omega
      have h1:=ht.out;rw[List.take_of_length_le (by rw[Hl.out];omega),List.take_of_length_le (by rw[Hl'.out];omega)] at h1;have H1:=hid h1;clear h1;go_wp2;go_ret;exact⟨zdq (by rw[decide_eq_true H1.out]),zy (Below.refl _ _) _⟩
 · have hnb:((n:Int) != (n':Int))=true:=by rw[bne_iff_ne];omega
   have hne:=hid (show l≠l' from fun h=>hnn (by rw[←hI.len,←hI'.len,h]));clear hI hI' HI HI' Hl Hl';go_enter Tryz.func59,Tryz.ntmps59;go_wp2;go_ret;exact⟨zdq (by rw[decide_eq_false hne.out]),Below.refl _ _⟩
end
section
open Go.RowKit Go.Shelf
structure Kept (p:Nat→Prop) (A B:World):Prop where
 os:B.os=A.os
 tape:B.tape=A.tape
 output:B.output=A.output
 size:A.heap.size≤B.heap.size
 row:∀k,k<A.heap.size→p k→B.heap[k]?=A.heap[k]?
variable {p q:Nat→Prop} {A B C:World}
theorem Kept.refl (p:Nat→Prop) (A:World):Kept p A A:=⟨rfl,rfl,rfl,Nat.le_refl _,fun _ _ _=>rfl⟩
theorem Kept.trans (h:Kept p A B) (k:Kept p B C):Kept p A C:=
 ⟨k.os.trans h.os,k.tape.trans h.tape,k.output.trans h.output,Nat.le_trans h.size k.size,fun i hi hp=>(k.row i (Nat.lt_of_lt_of_le hi h.size) hp).trans (h.row i hi hp)⟩
theorem Kept.mono (h:Kept p A B) (hq:∀k,k<A.heap.size→q k→p k):Kept q A B:=⟨h.os,h.tape,h.output,h.size,fun i hi hp=>h.row i hi (hq i hi hp)⟩
theorem Kept.alloc (h:Kept p A B) (o:Obj):Kept p A (B.alloc o):=
 h.trans ⟨rfl,rfl,rfl,by simp,fun k hk _=>Below.heap_alloc _ _ _ hk⟩
theorem Kept.setCell (h:Kept p A B) {a:Addr} (ha:a.block<A.heap.size→¬p a.block) (u:Value):Kept p A (B.setCell a u):=
 ⟨h.os,h.tape,h.output,by simpa [World.setCell] using h.size,fun k hk hp=>(Below.heap_setCell _ _ _ _ (fun e=>by subst e;exact ha hk hp)).trans (h.row k hk hp)⟩
theorem Kept.putObj (h:Kept p A B) {r:Nat} (ha:r<A.heap.size→¬p r) (o:Obj):Kept p A (B.putObj r o):=
 ⟨h.os,h.tape,h.output,by simpa using h.size,fun k hk hp=>(World.putObj_heap_other (fun e=>by subst e;exact ha hk hp)).trans (h.row k hk hp)⟩
theorem Kept.below (h:Kept p A B) (hb:Below B.heap.size B C):Kept p A C:=
 h.trans ⟨hb.os,hb.tape,hb.output,hb.size,fun k hk _=>hb.block k hk⟩
theorem Kept.grown {row:Option Nat} (h:Kept p A B) (hg:B.grownBy C row) (hr:∀k,row=some k→k<A.heap.size→¬p k):Kept p A C:=
 ⟨hg.os.trans h.os,hg.tape.trans h.tape,hg.output.trans h.output,Nat.le_trans h.size hg.size,
  fun k hk hp=>(hg.block k (Nat.lt_of_lt_of_le hk h.size) (fun e=>hr k e.symm hk hp)).trans (h.row k hk hp)⟩
theorem Kept.drewN (h:Kept p A B) (n:Nat):Kept p A (B.drewN n):=⟨h.os,h.tape,h.output,h.size,h.row⟩
theorem Kept.drew (h:Kept p A B):Kept p A B.drew:=⟨h.os,h.tape,h.output,h.size,h.row⟩
theorem Kept.cell (h:Kept p A B) {a:Addr} {v:Value} (hc:A.cell? a=some v) (ha:p a.block):B.cell? a=some v:=
 (World.cell?_of_block (h.row a.block (zh hc) ha)).trans hc
theorem Kept.frozen (h:Kept p A B) {a:Addr} (hc:a.block<A.heap.size) (ha:p a.block):B.frozen? a=A.frozen? a:=
 World.frozen?_of_block (h.row a.block hc ha)
theorem zmy {n:Nat} (h:Below n A B):Kept (fun k=>k<n) A B:=⟨h.os,h.tape,h.output,h.size,fun k _ hk=>h.block k hk⟩
theorem Kept.toBelow {n:Nat} (h:Kept p A B) (hp:∀k,k<n→p k) (hn:n≤A.heap.size):Below n A B:=⟨h.os,h.tape,h.output,h.size,fun k hk=>h.row k (Nat.lt_of_lt_of_le hk hn) (hp k hk)⟩
end
section
open Go.RowKit
def zjf (a b:Iv):Nat:=if a.2<b.1 then (if b.1 - a.2=1 then 1 else 0) else if b.2<a.1 then (if a.1 - b.2=1 then 3 else 4) else 2
theorem zvc {a b:Iv} (ha:a.1≤a.2) (hb:b.1≤b.2):yo a b=zjf a b:=by
 unfold yo zjf;repeat' split
 all_goals omega
theorem zvd {w:World} {base g sz:Nat} {e:TypeId} (h:w.heap[g]?=some (.cells #[] e (0,0))) (hb:base≤g):w.ownsRow base e sz (.slice (some ⟨g,0,none⟩) 0 0) 0 []:=
 ⟨by simp,.inr ⟨g,0,#[],rfl,hb,h,Nat.le_refl _,by unfold maxLen;omega,by simp,by simp⟩⟩
theorem vy {w:World} {g sz n:Nat} {e:TypeId} {C:Array Value} {fr:Nat×Nat} {xs:List Value} (h:w.heap[g]?=some (.cells C e fr)) (hC:C=xs.toArray) (hx:xs.length=n*sz):Rd w sz (some ⟨g,0,none⟩) n xs:=by
 subst hC;refine⟨hx,fun _=>⟨g,0,rfl,fun j u hu=>?_⟩⟩;simp only[World.cell?,h];simpa using hu
theorem yp (w:World) (o:Obj) (g:Nat) (h:g=w.heap.size):(w.alloc o).heap[g]?=some o:=by subst h;exact heap_alloc_new w o
theorem zdv (w:World) (o v:Obj) (g:Nat) (h:w.heap[g]?=some v):(w.alloc o).heap[g]?=some v:=(Below.heap_alloc w o g (by
 rcases Nat.lt_or_ge g w.heap.size with h' | h'
 · exact h'
 · rw[Array.getElem?_eq_none h'] at h;cases h)).trans h
theorem vz {w:World} {base b size n:Nat} {e:TypeId} {v:Value} {xs:List Value} (h:w.ownsRow base e size v n xs) (hb:b≤base):w.ownsRow b e size v n xs:=
 ⟨h.1,h.2.imp id fun ⟨g,cap,cur,h1,h2,r⟩=>⟨g,cap,cur,h1,Nat.le_trans hb h2,r⟩⟩
end
section
open Go.RowKit Go.Extern.Stop Go.Stop Go.Extern
theorem zc4 (x:Err) (w:World) (hD:Door w):
 Calls Tryz.prog 19 #[yt x] w fun e w'=>e=.returned (.int .i64 (zcm x))∧Below w.heap.size w w':=by
 have hD':=hid (fun o=>hD.below (Nat.le_refl _) ((Below.refl _ w).alloc (Nat.le_refl _) o));clear hD;rcases x with _ | ⟨c,_ | a⟩
 · go_enter Tryz.func19,Tryz.ntmps19;simp only[yt];go_wp2_with fail;go_ret;exact⟨rfl,(Below.refl _ _).alloc (Nat.le_refl _) _⟩
 · go_enter Tryz.func19,Tryz.ntmps19;simp only[yt];go_wp2_with fail;refine zmo _ _ _ _ (hD'.out _) (by simp) _ ?_;intro w1 A hb hA hAs;have hb2:Below w.heap.size w w1:=((Below.refl _ _).alloc (Nat.le_refl _) _).trans (hb.mono (by simp));have hc:w1.cell? ⟨w.heap.size,0,none⟩=some (.int .i64 0):=by rw[hb.cell (p:=⟨w.heap.size,0,none⟩) (by simp)];simp
   have hf:w1.frozen? ⟨w.heap.size,0,none⟩=false:=by rw[hb.frozen (p:=⟨w.heap.size,0,none⟩) (by simp)];simp
   refine(zuz c ⟨w.heap.size,0,none⟩ A _ w1 hA hc hf).mono ?_;rintro e w2 ⟨rfl,hg,hc2⟩;refine⟨true,rfl,?_⟩;have hb3:=zi8 hb2 (Nat.le_refl _) hg;clear hg hc hf hb hb2 hA hAs;go_wp2_with fail;go_ret;exact⟨rfl,hb3⟩
 · go_enter Tryz.func19,Tryz.ntmps19;simp only[yt];go_wp2_with fail;refine zmo _ _ _ _ (hD'.out _) (by simp) _ ?_;intro w1 A hb hA hAs;have hb2:Below w.heap.size w w1:=((Below.refl _ _).alloc (Nat.le_refl _) _).trans (hb.mono (by simp));have hc:w1.cell? ⟨w.heap.size,0,none⟩=some (.int .i64 0):=by rw[hb.cell (p:=⟨w.heap.size,0,none⟩) (by simp)];simp
   have hf:w1.frozen? ⟨w.heap.size,0,none⟩=false:=by rw[hb.frozen (p:=⟨w.heap.size,0,none⟩) (by simp)];simp
   refine(zu1 c a ⟨w.heap.size,0,none⟩ A _ w1 hA hc hf).mono ?_;rintro e w2 ⟨rfl,hg,hc2⟩;refine⟨true,rfl,?_⟩;have hb3:=zi8 hb2 (Nat.le_refl _) hg;clear hg hc hf hb hb2 hA hAs;go_wp2_with fail;go_ret;exact⟨rfl,hb3⟩
theorem zby (c a:Int) (w:World):
 Calls Tryz.prog 82 #[.int .i64 c,.int .i64 a] w fun e w'=>e=.returned (yt (zem c a))∧w=w':=by
 by_cases h:c=0
 · subst h;go_enter Tryz.func82,Tryz.ntmps82;go_wp2;go_ret;exact⟨rfl,rfl⟩
 · have hb:(c == 0)=false:=by rw[beq_eq_false_iff_ne];exact h
   have he:=hid (show zem c a=some (c,some a) from if_neg h);clear h;go_enter Tryz.func82,Tryz.ntmps82;go_wp2;go_ret;exact⟨by rw[he.out];rfl,rfl⟩
theorem zve (w:World):
 Calls Tryz.prog 62 #[.nilIface] w fun e w'=>e=.returned (.tuple #[.agg #[.int .i64 0,.int .i64 0],.bool false])∧Below w.heap.size w w':=by
 go_enter Tryz.func62,Tryz.ntmps62;go_wp2_with fail;refine(zu2 _ _).mono ?_;rintro e w' ⟨rfl,rfl⟩;go_wp2_with fail;exact bodyPost_ret (v:=.tuple #[.agg #[.int .i64 0,.int .i64 0],.bool false]) (by simp[results,Tryz.results62,go_sem]) rfl ⟨rfl,((Below.refl _ _).alloc (Nat.le_refl _) _).alloc (by simp) _⟩
theorem zvf (c:Int) (w:World) (hD:Door w):
 Calls Tryz.prog 62 #[.iface 35 (.int .i64 c)] w fun e w'=>e=.returned (.tuple #[.agg #[.int .i64 0,.int .i64 0],.bool false])∧Below w.heap.size w w':=by
 have hD':=hid (fun o1 o2=>hD.below (Nat.le_refl _) (((Below.refl _ w).alloc (Nat.le_refl _) o1).alloc (by simp) o2));clear hD;go_enter Tryz.func62,Tryz.ntmps62;go_wp2_with fail;refine zmp _ _ _ _ (hD'.out _ _) (by simp) _ ?_;intro w1 A hb hA hAs;have hb2:Below w.heap.size w w1:=(((Below.refl _ _).alloc (Nat.le_refl _) _).alloc (by simp) _).trans (hb.mono (by simp;omega));have hz:=hb.size;have hc0:w1.cell? ⟨w.heap.size+1,0,none⟩=some (.int .i64 0):=by rw[hb.cell (p:=⟨w.heap.size+1,0,none⟩) (by simp)];go_simp
 have hc1:w1.cell? ⟨w.heap.size+1,1,none⟩=some (.int .i64 0):=by rw[hb.cell (p:=⟨w.heap.size+1,1,none⟩) (by simp)];go_simp
 have hr0:w1.cell? ⟨w.heap.size,0,none⟩=some (.int .i64 0):=by rw[hb.cell (p:=⟨w.heap.size,0,none⟩) (by simp;omega)];go_simp
 have hr1:w1.cell? ⟨w.heap.size,1,none⟩=some (.int .i64 0):=by rw[hb.cell (p:=⟨w.heap.size,1,none⟩) (by simp;omega)];go_simp
 have hf0:w1.frozen? ⟨w.heap.size,0,none⟩=false:=by rw[hb.frozen (p:=⟨w.heap.size,0,none⟩) (by simp;omega)];go_simp
 have hf1:w1.frozen? ⟨w.heap.size,1,none⟩=false:=by rw[hb.frozen (p:=⟨w.heap.size,1,none⟩) (by simp;omega)];go_simp
 refine(zuy c (w.heap.size+1) A w1).mono ?_;rintro e w2 ⟨rfl,hg⟩;refine⟨false,rfl,?_⟩;have hb3:=zuo hb2 hg;have keep:∀p:Addr,p.block<w1.heap.size→w2.cell? p=w1.cell? p:=fun p hp=>World.cell?_of_block (hg.block _ hp (by simp))
 have kfree:∀p:Addr,p.block<w1.heap.size→w2.frozen? p=w1.frozen? p:=fun p hp=>World.frozen?_of_block (hg.block _ hp (by simp))
 have hc0':=(keep ⟨w.heap.size+1,0,none⟩ (zh hc0)).trans hc0;have hc1':=(keep ⟨w.heap.size+1,1,none⟩ (zh hc1)).trans hc1;have hr0':=(keep ⟨w.heap.size,0,none⟩ (zh hr0)).trans hr0;have hr1':=(keep ⟨w.heap.size,1,none⟩ (zh hr1)).trans hr1;have hf0':=(kfree ⟨w.heap.size,0,none⟩ (zh hr0)).trans hf0;have hf1':=(kfree ⟨w.heap.size,1,none⟩ (zh hr1)).trans hf1;clear keep kfree hg hc0 hc1 hr0 hr1 hf0 hf1 hb hb2 hA hAs hz;go_wp2_with fail;exact bodyPost_ret (v:=.tuple #[.agg #[.int .i64 0,.int .i64 0],.bool false]) (by simp[results,Tryz.results62,go_sem,hr0',hr1']) rfl ⟨rfl,(hb3.setCell (p:=⟨w.heap.size,0,none⟩) (Nat.le_refl _) _).setCell (p:=⟨w.heap.size,1,none⟩) (Nat.le_refl _) _⟩
theorem zvg (c a:Int) (w:World) (hD:Door w):
 Calls Tryz.prog 62 #[.iface 112 (.agg #[.int .i64 c,.int .i64 a])] w fun e w'=>e=.returned (.tuple #[.agg #[.int .i64 c,.int .i64 a],.bool true])∧Below w.heap.size w w':=by
 have hD':=hid (fun o1 o2=>hD.below (Nat.le_refl _) (((Below.refl _ w).alloc (Nat.le_refl _) o1).alloc (by simp) o2));clear hD;go_enter Tryz.func62,Tryz.ntmps62;go_wp2_with fail;refine zmp _ _ _ _ (hD'.out _ _) (by simp) _ ?_;intro w1 A hb hA hAs;have hb2:Below w.heap.size w w1:=(((Below.refl _ _).alloc (Nat.le_refl _) _).alloc (by simp) _).trans (hb.mono (by simp;omega));have hz:=hb.size;have hc0:w1.cell? ⟨w.heap.size+1,0,none⟩=some (.int .i64 0):=by rw[hb.cell (p:=⟨w.heap.size+1,0,none⟩) (by simp)];go_simp
 have hc1:w1.cell? ⟨w.heap.size+1,1,none⟩=some (.int .i64 0):=by rw[hb.cell (p:=⟨w.heap.size+1,1,none⟩) (by simp)];go_simp
 have hg0:w1.frozen? ⟨w.heap.size+1,0,none⟩=false:=by rw[hb.frozen (p:=⟨w.heap.size+1,0,none⟩) (by simp)];go_simp
 have hg1:w1.frozen? ⟨w.heap.size+1,1,none⟩=false:=by rw[hb.frozen (p:=⟨w.heap.size+1,1,none⟩) (by simp)];go_simp
 have hr0:w1.cell? ⟨w.heap.size,0,none⟩=some (.int .i64 0):=by rw[hb.cell (p:=⟨w.heap.size,0,none⟩) (by simp;omega)];go_simp
 have hr1:w1.cell? ⟨w.heap.size,1,none⟩=some (.int .i64 0):=by rw[hb.cell (p:=⟨w.heap.size,1,none⟩) (by simp;omega)];go_simp
 have hf0:w1.frozen? ⟨w.heap.size,0,none⟩=false:=by rw[hb.frozen (p:=⟨w.heap.size,0,none⟩) (by simp;omega)];go_simp
 have hf1:w1.frozen? ⟨w.heap.size,1,none⟩=false:=by rw[hb.frozen (p:=⟨w.heap.size,1,none⟩) (by simp;omega)];go_simp
 refine(zux c a (w.heap.size+1) A _ _ w1 hA hc0 hc1 hg0 hg1).mono ?_;rintro e w2 ⟨rfl,hg,hc0',hc1'⟩;refine⟨true,rfl,?_⟩;have hb3:=zi8 hb2 (by omega) hg;have keep:∀p:Addr,p.block<w1.heap.size→p.block≠w.heap.size+1→w2.cell? p=w1.cell? p:=fun p hp hne=>World.cell?_of_block (hg.block _ hp (by simpa using hne))
 have kfree:∀p:Addr,p.block<w1.heap.size→p.block≠w.heap.size+1→w2.frozen? p=w1.frozen? p:=fun p hp hne=>World.frozen?_of_block (hg.block _ hp (by simpa using hne))
 have hr0':=(keep ⟨w.heap.size,0,none⟩ (zh hr0) (by simp)).trans hr0;have hr1':=(keep ⟨w.heap.size,1,none⟩ (zh hr1) (by simp)).trans hr1;have hf0':=(kfree ⟨w.heap.size,0,none⟩ (zh hr0) (by simp)).trans hf0;have hf1':=(kfree ⟨w.heap.size,1,none⟩ (zh hr1) (by simp)).trans hf1;clear keep kfree hg hg0 hg1 hc0 hc1 hr0 hr1 hf0 hf1 hb hb2 hA hAs hz;go_wp2_with fail;exact bodyPost_ret (v:=.tuple #[.agg #[.int .i64 c,.int .i64 a],.bool true]) (by simp[results,Tryz.results62,go_sem,hr0',hr1']) rfl ⟨rfl,(hb3.setCell (p:=⟨w.heap.size,0,none⟩) (Nat.le_refl _) _).setCell (p:=⟨w.heap.size,1,none⟩) (Nat.le_refl _) _⟩
theorem zmz (x:Err) (w:World) (hD:Door w):
 Calls Tryz.prog 20 #[yt x] w fun e w'=>e=.returned (.int .i64 (zi7 x))∧Below w.heap.size w w':=by
 rcases x with _ | ⟨c,_ | a⟩
 · go_enter Tryz.func20,Tryz.ntmps20;simp only[yt];go_wp2_with fail;refine(zve _).mono ?_;rintro e w1 ⟨rfl,hb⟩;go_wp2_with fail;go_ret;exact⟨rfl,hb.alloc hb.size _⟩
 · go_enter Tryz.func20,Tryz.ntmps20;simp only[yt];go_wp2_with fail;refine(zvf _ _ hD).mono ?_;rintro e w1 ⟨rfl,hb⟩;go_wp2_with fail;go_ret;exact⟨rfl,hb.alloc hb.size _⟩
 · go_enter Tryz.func20,Tryz.ntmps20;simp only[yt];go_wp2_with fail;refine(zvg _ _ _ hD).mono ?_;rintro e w1 ⟨rfl,hb⟩;go_wp2_with fail;go_ret;exact⟨rfl,hb.alloc hb.size _⟩
