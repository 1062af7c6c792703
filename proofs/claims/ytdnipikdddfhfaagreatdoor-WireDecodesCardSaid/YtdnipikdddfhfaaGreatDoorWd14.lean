/- Part 14. -/
import Derived.Test.YtdnipikdddfhfaaGreatDoorWd12
set_option linter.unusedVariables false
set_option maxHeartbeats 16000000
namespace Go.Proofs.YtdnipikdddfhfaaGreatDoor
open Lib (hid)
section
open Go.RowKit
def ki (k:Kno) (x d:Nat):Vec:=atK (k.take d) x
theorem zkf (k:Kno) (x:Nat):ki k x 0=[]:=rfl
theorem zkg {k:Kno} {x d:Nat} (h:d<k.length):ki k x (d+1)=if mem (zb k d).1 x=true then doV gOr (ki k x d) (zb k d).2 else ki k x d:=by
 unfold ki atK;rw[List.take_succ_eq_append_getElem h,List.foldl_append,ym h]
 rfl
theorem zkh (k:Kno) (x:Nat):ki k x k.length=atK k x:=by unfold ki;rw[List.take_length]
structure KnoFits (k:Kno):Prop where
 len:k.length≤500
 items:∀f∈k,f.1.length≤500
 vec:∀f∈k,VecFits f.2
 at_:∀x d,VecFits (ki k x d)
theorem zki {k:Kno} (h:LtK k) (x d:Nat):LtV (ki k x d):=(zcv (fun f hf=>h f (List.mem_of_mem_take hf)) x).2.1
def kx (k:Kno) (x d:Nat):List Nat:=(List.range d).filter fun i=>mem (zb k i).1 x
theorem zht (k:Kno) (x d:Nat):kx k x (d+1)=kx k x d++(if mem (zb k d).1 x=true then [d] else []):=by
 unfold kx;rw[List.range_succ,List.filter_append];congr 1;by_cases h:mem (zb k d).1 x=true
 · simp[h]
 · simp[h]
theorem zkj (k:Kno) (x d:Nat):(kx k x d).length≤d:=by
 have:=List.length_filter_le (fun i=>mem (zb k i).1 x) (List.range d);simpa [kx] using this
set_option maxRecDepth 20000 in
theorem zpa (a d:Option Addr) (n c n' c':Nat) (v u:Kno) (w:World) (hE:Frags w a n c v) (hF:Frags w d n' c' u):
 Calls Tryz.prog 18 #[.slice a n c,.slice d n' c'] w fun x w'=>x=.returned (.bool (decide (v=u)))∧Below w.heap.size w w':=by
 have HE:=hid hE;have HF:=hid hF;have Hl:=hid hE.len;have Hl':=hid hF.len;have hm:n≤9223372036854775807:=Nat.le_trans hE.room hE.most;have hm':n'≤9223372036854775807:=Nat.le_trans hF.room hF.most;clear hE hF;by_cases hne:n=n'
 · subst hne;have hz:((n:Int) != (n:Int))=false:=by simp
   go_enter Tryz.func18,Tryz.ntmps18;go_wp2;go_loopw [5] (fun i wr=>∃k:Nat,k≤n∧i=.int .i64 k∧Below w.heap.size w wr∧Hid (∀j,j<k→zb v j=zb u j)) (fun i _=>n - (intOf i).toNat)
   case atStart=>exact⟨0,by omega,rfl,Below.refl _ _,fun j h=>by omega⟩
   case round=>
    obtain⟨k,hk,rfl,hb,ht⟩:=hrel;have Hb:=hid hb;clear hb;by_cases hkn:k<n
    · have HEr:=hid (HE.out.below Hb.out);have HFr:=hid (HF.out.below Hb.out);obtain⟨bb,oo,rfl⟩:=HEr.out.some (by omega);obtain⟨bd,od,rfl⟩:=HFr.out.some (by omega);obtain⟨x1,m1,e1,x2,m2,e2,hq⟩:=HEr.out.fix hkn;obtain⟨y1,l1,f1,y2,l2,f2,hp⟩:=HFr.out.fix hkn;have Hq:=hid hq;have Hp:=hid hp;have hC:=hid (fun w' (h:Below wr.heap.size wr w')=>zmx x1 y1 m1 e1 l1 f1 (zb v k).1 (zb u k).1 w' (hq w' h).2.1 (hp w' h).2.1);have hD:=hid (fun w' (h:Below wr.heap.size wr w')=>zw3 x2 y2 m2 e2 l2 f2 (zb v k).2 (zb u k).2 w' (hq w' h).2.2.2 (hp w' h).2.2.2)
      have Hst:=hid (show decide ((zb v k).1=(zb u k).1)=true→decide ((zb v k).2=(zb u k).2)=true→∀j,j<k+1→zb v j=zb u j from fun h h2 j hj=>by
       by_cases e:j=k
       · rw[e];exact Prod.ext (of_decide_eq_true h) (of_decide_eq_true h2)
       · exact ht.out j (by omega))
      have Hno1:=hid (show decide ((zb v k).1=(zb u k).1)=false→v≠u from fun h h2=>by rw[h2] at h;simp at h);have Hno2:=hid (show decide ((zb v k).2=(zb u k).2)=false→v≠u from fun h h2=>by rw[h2] at h;simp at h);have h0:(0:Int)≤k:=by omega
      have h04:(k:Int)<(n:Int):=by omega
      clear hq hp;generalize decide ((zb v k).1=(zb u k).1)=d1 at*;generalize decide ((zb v k).2=(zb u k).2)=d2 at*;generalize zb v k=f at*;generalize zb u k=g at*;go_wp2_with fail;go_cut [42] (fun t wc=>t=.bool (!d1 || !d2)∧Hid (Below wr.heap.size wr wc))
      case first=>
       refine za1 (by kernel_rfl) (by kernel_rfl) ?_;cases d1 <;>
       (repeat (go_big_quiet_step ((intro hw;first
         | rfl
         | (have q0:=Hq.out _ hw
            have q1:=q0.1;have q2:=q0.2.2.1;have p0:=Hp.out _ hw;have p1:=p0.1;have p2:=p0.2.2.1;clear q0 p0
            first
            | (go_at_call 59;exact zcn hw (hC.out _ hw))
            | (go_at_call 60;exact zcn hw (hD.out _ hw))
            | (go_simp
               first | rfl | exact⟨rfl,hw⟩ | (trace_state;fail)))))))
       all_goals
        refine wpQuiet_nil ?_;intro w3 hb3;go_wp2;go_meet
        exact⟨rfl,hb3⟩
      case rest=>
       obtain⟨rfl,hb2⟩:=hcut;have Hb2:=hid (Hb.out.trans (hb2.out.mono Hb.out.size));clear hb2
       cases d1 with
       | false=>
        have Hs:=hid (show decide (v=u)=false from by rw[decide_eq_false_iff_not];exact Hno1.out rfl);rw[Bool.not_false,Bool.true_or];clear Hno1 Hno2 Hst;go_wp2;go_ret
        exact⟨by rw[Hs.out];rfl,Hb2.out⟩
       | true=>
        cases d2 with
        | true=>
         have Hs:=hid (Hst.out rfl rfl);rw[Bool.not_true,Bool.false_or];clear Hno1 Hno2 Hst;go_wp2;go_roundw
         case rel=>exact⟨k+1,by omega,by go_num,Hb2.out,Hs.out⟩
         case measure=>simp[intOf];omega
        | false=>
         have Hs:=hid (show decide (v=u)=false from by rw[decide_eq_false_iff_not];exact Hno2.out rfl);rw[Bool.not_true,Bool.not_false,Bool.false_or];clear Hno1 Hno2 Hst;go_wp2;go_ret;exact⟨by rw[Hs.out];rfl,Hb2.out⟩
    · obtain rfl:k=n:=by omega
      have Hs:=hid (show decide (v=u)=true from by
       rw[decide_eq_true_iff];refine List.ext_getElem (by rw[Hl.out,Hl'.out]) fun i h1 h2=>?_
       have:=ht.out i (by rw[←Hl.out];exact h1);rwa [ym h1,ym h2] at this)
      go_wp2;go_ret;exact⟨by rw[Hs.out];rfl,Hb.out⟩
 · have hz:((n:Int) != (n':Int))=true:=by rw[bne_iff_ne];omega
   have Hs:=hid (show decide (v=u)=false from by
    rw[decide_eq_false_iff_not];intro h;apply hne;rw[←Hl.out,←Hl'.out,h])
   clear hne;go_enter Tryz.func18,Tryz.ntmps18;go_wp2;go_ret;exact⟨by rw[Hs.out];rfl,Below.refl _ _⟩
theorem zx2 (L:List Nat) (x p:Nat):(zo L).take p++([Value.int .u64 (x:Int)]++(zo L).drop p)=zo (L.take p++x :: L.drop p):=by
 simp[zo,List.map_take,List.map_drop]
theorem zx3 (Br base:Nat) (v:Value) (L:List Nat) (x:Nat) (w:World) (hB:w.heap[Br]?=some (.cells #[v] 367 (0,0))) (ho:w.ownsRow base 43 1 v L.length (zo L)) (hbr:Br<base) (hbs:base≤w.heap.size)
 (hl:∀y∈L,y<18446744073709551616) (hA:Asc L) (hx:x∉L) (hn:L.length+1≤1000000):
 Calls Tryz.prog 269 #[.pointer (some ⟨Br,0,none⟩),.int .u64 x] w fun e w'=>e=.returned (.tuple #[])∧
  ∃v',w'.heap[Br]?=some (.cells #[v'] 367 (0,0))∧w'.ownsRow base 43 1 v' (kh L x).length (zo (kh L x))∧Kept (fun k=>k<base∧k≠Br) w w':=by
 obtain⟨a,c,rfl,hU⟩:=zco ho hl;have Ho:=hid ho;have HA:=hid hA;have Hx:=hid hx;have HB:=hid hB;have hBw:Br<w.heap.size:=(Array.getElem?_eq_some_iff.1 hB).1;have q1:=yz hB;have hC:=hid (zwm a L.length c x L w hU hA (by omega));clear ho hA hx hB hU hl;go_enter Tryz.func269,Tryz.ntmps269;go_wp2_with fail;refine hC.out.mono ?_;rintro e w1 ⟨⟨p,z,rfl,hp,h1,h2⟩,hw⟩;have hw:=hw.symm;subst hw;have HI:=hid (zn3 HA.out Hx.out hp h1 h2);clear h1 h2;have hal:Below w.heap.size w (w.alloc (.cells #[.int .u64 x] 43)):=(Below.refl _ _).alloc (Nat.le_refl _) _
 have hIns:=hid (zvs base (.slice a L.length c) L.length p w.heap.size (zo L) [.int .u64 x] (w.alloc (.cells #[.int .u64 x] 43)) (qc Ho.out hal) (yh rfl)
  (fun e=>by have:=(Ho.out.lt _ e).2;omega) rfl (zmu L) (by simp[Value.oneCell']) hp hn (by simp;omega))
 have q2:=qg (o:=.cells #[.int .u64 x] 43) HB.out;have q3:=yz q2;have Hal:=hid hal;clear hal q2;go_wp2_with fail;refine hIns.out.mono ?_;rintro e w2 ⟨v',rfl,ho2,hg2⟩
 have hBk:w2.heap[Br]?=some (.cells #[.slice a L.length c] 367 (0,0)):=by
  refine(hg2.block Br (by simp;omega) (fun e=>?_)).trans (qg HB.out);have:=(Ho.out.lt Br e.symm).1;omega
 have q4:=yz hBk;have q5:=k9 hBk;have HBk:=hid hBk;have Ho2:=hid ho2;have Hg2:=hid hg2;obtain⟨b',c',rfl⟩:=jz ho2;clear hBk ho2 hg2 q1 q3;go_wp2;go_end0
 refine⟨rfl,_,zb0 HBk.out,?_,?_⟩
 · rw[HI.out];have h:=Ho2.out;rw[zx2] at h;have hl:(L.take p++x :: L.drop p).length=L.length+1:=by simp;omega
   rw[hl];exact qk h (fun k hk1 hk2=>Below.heap_setCell _ _ _ _ (by simp only;omega))
 · refine Kept.setCell ?_ (by simp) _;refine((Kept.refl _ w).alloc _).grown Hg2.out (fun k hk hkw hkb=>?_);have:=(Ho.out.lt k hk).1;omega
theorem zpb:∀(ss:List (Value×Value)) (k:Nat),(yi ss).take (k*2)=yi (ss.take k)
 | [],k=>by simp[yi]
 | s :: ss,0=>by simp[yi]
 | s :: ss,k+1=>by
   have e1:yi (s :: ss)=s.1 :: s.2 :: yi ss:=rfl;rw[e1,show (k+1)*2=k*2+1+1 by omega,List.take_succ_cons,List.take_succ_cons,zpb ss k]
   rfl
theorem zpc:∀(ss:List (Value×Value)) (k:Nat),(yi ss).drop (k*2)=yi (ss.drop k)
 | [],k=>by simp[yi]
 | s :: ss,0=>by simp
 | s :: ss,k+1=>by
   have e1:yi (s :: ss)=s.1 :: s.2 :: yi ss:=rfl;rw[e1,show (k+1)*2=k*2+1+1 by omega,List.drop_succ_cons,List.drop_succ_cons,zpc ss k]
   rfl
theorem zpd:∀(ss:List (Value×Value)) (k:Nat) (x y:Value),((yi ss).set (k*2) x).set (k*2+1) y=yi (ss.set k (x,y))
 | [],k,x,y=>by simp[yi]
 | s :: ss,0,x,y=>rfl
 | s :: ss,k+1,x,y=>by
   have e1:yi (s :: ss)=s.1 :: s.2 :: yi ss:=rfl;rw[e1,show (k+1)*2+1=(k*2+1)+1+1 by omega,show (k+1)*2=k*2+1+1 by omega,List.set_cons_succ,List.set_cons_succ,List.set_cons_succ,List.set_cons_succ,zpd ss k x y]
   rfl
theorem OwnK.form {w:World} {base inner:Nat} {x:Value} {k:Kno} (h:OwnK w base inner x k):
 (x=.slice none 0 0∧k=[])∨∃g c ss,x=.slice (some ⟨g,0,none⟩) k.length c∧base≤g∧g<w.heap.size∧k.length≤c∧c≤maxLen∧w.ownsRow base 97 2 (.slice (some ⟨g,0,none⟩) k.length c) k.length (yi ss)∧PartsT w inner k ss:=by
 obtain⟨ss,ho,hh⟩:=h;have ho2:=ho;rcases ho.2 with ⟨rfl,h0⟩ | ⟨g,cap,cur,rfl,hg,hr,hnc,hcm,_⟩
 · exact .inl ⟨rfl,List.length_eq_zero_iff.1 h0⟩
 · exact .inr ⟨g,cap,ss,rfl,hg,(Array.getElem?_eq_some_iff.1 hr).1,hnc,hcm,ho2,hh⟩
theorem OwnK.form2 {w:World} {base inner n c:Nat} {a:Option Addr} {k:Kno} (h:OwnK w base inner (.slice a n c) k):
 (a=none∧n=0∧c=0∧k=[])∨∃g ss,a=some ⟨g,0,none⟩∧k.length=n∧base≤g∧g<w.heap.size∧n≤c∧c≤maxLen∧w.ownsRow base 97 2 (.slice (some ⟨g,0,none⟩) n c) n (yi ss)∧PartsT w inner k ss:=by
 rcases h.form with ⟨e,h0⟩ | ⟨g,c',ss,e,h1⟩
 · cases e;exact .inl ⟨rfl,rfl,rfl,h0⟩
 · cases e;exact .inr ⟨g,ss,rfl,rfl,h1⟩
theorem zkk {w:World} {base g n c sz:Nat} {T:TypeId} {xs:List Value} (h:w.ownsRow base T sz (.slice (some ⟨g,0,none⟩) n c) n xs) (i:Nat):w.frozen? ⟨g,i,none⟩=false:=by
 rcases h.2 with ⟨h',_⟩ | ⟨g',cap,cur,h',hg,hr,_⟩
 · cases h'
 · cases h';simp[World.frozen?,hr]
def zu:Kno→Nat
 | []=>0
 | f :: k=>f.1.length+zu k
theorem zpe:∀(k j:Kno),zu (k++j)=zu k+zu j
 | [],j=>by simp[zu]
 | f :: k,j=>by rw[List.cons_append,zu,zu,zpe k j];omega
theorem zez:∀{k:Kno} {f:Frg},f∈k→f.1.length≤zu k
 | g :: k,f,h=>by
   rw[zu];rcases List.mem_cons.1 h with rfl | h
   · omega
   · have:=zez h;omega
theorem zpf:∀{k:Kno} {f:Frg},(∀g∈k,zk g.1)→zk f.1→zu (j0 k f)≤zu k+f.1.length∧(j0 k f).length≤k.length+1
 | [],f,_,_=>by simp[j0,zu]
 | g :: k,f,h,hf=>by
   rw[j0];split
   · obtain⟨h1,h2⟩:=zpf (k:=k) (f:=f) (fun g hg=>h g (List.mem_cons_of_mem _ hg)) hf;rw[zu,zu,List.length_cons,List.length_cons];omega
   · split
     · have:=zjq (h g List.mem_cons_self) hf;rw[zu,zu,List.length_cons,List.length_cons];simp only;omega
     · simp only[zu,List.length_cons];omega
def zbf (k:Kno) (d:Nat):Kno:=(k.take d).foldl stepG []
theorem zx4 {k:Kno} {d:Nat} (h:d<k.length):zbf k (d+1)=stepG (zbf k d) (zb k d):=by
 unfold zbf;rw[List.take_succ_eq_append_getElem h,List.foldl_append,ym h]
 rfl
theorem zkl (k:Kno):zbf k k.length=zb2 k:=by unfold zbf zb2;rw[List.take_length]
theorem zx5 {k:Kno} (h:∀f∈k,RawF f) (d:Nat):∀g∈zbf k d,GrpF g:=
 (zfz (k:=k.take d) (out:=[]) (fun f hf=>h f (List.mem_of_mem_take hf)) (fun g hg=>by cases hg) List.Pairwise.nil).1
theorem zpg:∀{k out:Kno} {g:Frg},g∈k.foldl stepG out→(∃h∈out,h.2=g.2)∨∃f∈k,kw f.2=g.2
 | [],out,g,h=>.inl ⟨g,h,rfl⟩
 | f :: k,out,g,h=>by
   rw[List.foldl_cons] at h;rcases zpg h with ⟨e,he,e2⟩ | ⟨e,he,e2⟩
   · unfold stepG at he;split at he
     · exact .inl ⟨e,he,e2⟩
     · rcases zka he with h1 | ⟨g',hg',h1⟩
       · exact .inr ⟨f,List.mem_cons_self,h1.symm.trans e2⟩
       · exact .inl ⟨g',hg',h1.trans e2⟩
   · exact .inr ⟨e,List.mem_cons_of_mem _ he,e2⟩
theorem zph {k:Kno} (h:∀f∈k,VecFits (kw f.2)) (d:Nat):∀g∈zbf k d,VecFits g.2:=by
 intro g hg;rcases zpg hg with ⟨e,he,_⟩ | ⟨f,hf,e⟩
 · cases he
 · rw[←e];exact h f (List.mem_of_mem_take hf)
theorem zkm:∀(k:Kno) (d:Nat),zu (k.take d)≤zu k
 | [],d=>by simp[zu]
 | f :: k,0=>by simp[zu]
 | f :: k,d+1=>by rw[List.take_succ_cons,zu,zu];have:=zkm k d;omega
theorem zkn:∀{k out:Kno},(∀f∈k,RawF f)→(∀g∈out,GrpF g)→out.Pairwise kk→zu (k.foldl stepG out)≤zu out+zu k∧(k.foldl stepG out).length≤out.length+k.length
 | [],out,_,_,_=>by simp[zu]
 | f :: k,out,h1,h2,h3=>by
   rw[List.foldl_cons,zu,List.length_cons];have hk:∀f∈k,RawF f:=fun g hg=>h1 g (List.mem_cons_of_mem _ hg)
   by_cases hc:kw f.2=[]∨f.1=[]
   · have e:stepG out f=out:=by unfold stepG;rw[if_pos hc]
     rw[e];have:=zkn hk h2 h3;omega
   · have e:stepG out f=j0 out (f.1,kw f.2):=by unfold stepG;rw[if_neg hc]
     rw[e];have hf:=zo5 (h1 f List.mem_cons_self) hc;obtain⟨a1,a2,-⟩:=zkb h2 h3 hf;have h4:=zkn hk a1 a2;have h5:=zpf (k:=out) (f:=(f.1,kw f.2)) (fun g hg=>(h2 g hg).items) hf.items;simp only at h5;omega
theorem zko {k:Kno} (h:∀f∈k,RawF f) (d:Nat):zu (zbf k d)≤zu k∧(zbf k d).length≤k.length:=by
 have h1:=zkn (k:=k.take d) (out:=[]) (fun f hf=>h f (List.mem_of_mem_take hf)) (fun g hg=>by cases hg) List.Pairwise.nil;have h2:=zkm k d;rw[List.length_take] at h1;simp only[zu,List.length_nil] at h1;unfold zbf;omega
theorem zx6 {w:World} {ops:Array Oper} {rest:List Oper} {o:Oper} {a:Act} {Q:Exit→Act→World→Prop} (hgd:o.guard=none) (s x:Operand)
 (ho:o.op=.call { callee:=.builtin .append,args:= #[s,x],argTypes:= #[95,95] }) (hty:o.type=95)
 (base:Nat) (v:Value) (vs:Vec) (hs:a.eval s=v) (hown:OwnV w base v vs) (A:Option Addr) (c:Nat) (e:Ent) (ea:Option Addr) (en ec:Nat) (hI:IvsT w 0 ea en ec e.2.2) (hx:a.eval x=.slice A 1 c)
 (hr:Rd w 3 A 1 [.int .u64 ((e.1:Nat):Int),.int .u64 ((e.2.1:Nat):Int),.slice ea en ec]) (hb:vs.length+1≤1000000) (hbase:base≤w.heap.size)
 (h:∀v' w',OwnV w' base v' (vs++[e])→w.grownBy w' v.ownBlock→Steady base zat w w'→wpList Tryz.prog ops Q rest (a.put o.dst v') w'):wpList Tryz.prog ops Q (o :: rest) a w:=by
 obtain⟨v',w',hrun,h1,h2,h3⟩:=zwr base v vs e hown ea en ec hI A c hr hb hbase;exact jh _ _ _ ho (by simp[Region.wanted,hgd]) _ _ hs hx v' w' (by rw[hty];exact hrun) (h v' w' h1 h2 h3)
theorem zx7 {w:World} {ops:Array Oper} {rest:List Oper} {o:Oper} {a:Act} {Q:Exit→Act→World→Prop} (hgd:o.guard=none) (s x:Operand)
 (ho:o.op=.call { callee:=.builtin .append,args:= #[s,x],argTypes:= #[41,41] }) (hty:o.type=41)
 (base:Nat) (v:Value) (n:Nat) (xs:List Nat) (hs:a.eval s=v) (hown:w.ownsRow base 43 1 v n (zo xs)) (A:Option Addr) (m c:Nat) (l:List Nat) (hx:a.eval x=.slice A m c) (hr:Rd w 1 A m (zo l)) (hb:n+m≤1000000) (hbase:base≤w.heap.size)
 (h:∀v' w',w'.ownsRow base 43 1 v' (n+m) (zo (xs++l))→w.grownBy w' v.ownBlock→wpList Tryz.prog ops Q rest (a.put o.dst v') w'):wpList Tryz.prog ops Q (o :: rest) a w:=by
 obtain⟨v',w',hrun,h1,h2⟩:=zeq base v n xs hown A m c l hr (by omega) hbase;exact jh _ _ _ ho (by simp[Region.wanted,hgd]) _ _ hs hx v' w' (by rw[hty];exact hrun) (h v' w' h1 h2)
theorem zx8 {w:World} {ops:Array Oper} {o:Oper} {a:Act} {K:Act→World→Prop} {Q:Exit→Act→World→Prop} {E:Prop} (hgd:o.guard=none) (s x:Operand)
 (ho:o.op=.call { callee:=.builtin .append,args:= #[s,x],argTypes:= #[27,27] }) (hty:o.type=27)
 (base inner:Nat) (v:Value) (k:Kno) (hs:a.eval s=v) (hown:OwnK w base inner v k) (A:Option Addr) (c n:Nat) (j:Kno) (hn:n=j.length) (ts:List (Value×Value)) (hp:PartsT w inner j ts) (hx:a.eval x=.slice A n c)
 (hr:Rd w 2 A n (yi ts)) (hb:k.length+j.length≤1000000) (hbase:base≤w.heap.size) (hin:inner≤base)
 (h:∀v' w',OwnK w' base inner v' (k++j)→w.grownBy w' v.ownBlock→Steady base zag w w'→K (a.put o.dst v') w'):
 if Region.wanted o (yielded ops a.tmps)=true then Oper.wp Tryz.prog o a w K Q else E:=by
 subst hn;obtain⟨v',w',hrun,h1,h2,h3⟩:=zxl base inner v k j hown ts hp A c hr hb hbase hin;exact zfm hgd s x _ ho _ _ hs hx v' w' (by rw[hty];exact hrun) (h v' w' h1 h2 h3)
theorem OwnV.lt {w:World} {base:Nat} {v:Value} {vs:Vec} (h:OwnV w base v vs):∀k,v.ownBlock=some k→base≤k∧k<w.heap.size:=by
 obtain⟨ss,ho,-⟩:=h;exact fun k hk=>ho.lt k hk
theorem OwnK.lt {w:World} {base inner:Nat} {v:Value} {k:Kno} (h:OwnK w base inner v k):∀j,v.ownBlock=some j→base≤j∧j<w.heap.size:=by
 obtain⟨ss,ho,-⟩:=h;exact fun j hj=>ho.lt j hj
theorem zx9 (k:Kno) (x:Kno) (l:List Iv):zu (l.map fun s=>([s],atK k s.1))=l.length:=by
 induction l with
 | nil=>rfl
 | cons s l ih=>rw[List.map_cons,zu,ih,List.length_cons];simp;omega
theorem zya (a:Option Addr) (n c p:Nat) (hs:List Iv) (w:World) (hI:Ivs w a n c hs) (hD:Door w) (hp:w.cell? ⟨p,2,none⟩=some (.slice a n c)):
 Calls Tryz.prog 203 #[.pointer (some ⟨p,0,none⟩)] w fun e w'=>e=.returned (yt (zae (ck hs)))∧Below w.heap.size w w':=by
 have hC:=hid (zm8 a n c hs w hI hD);clear hI hD;go_enter Tryz.func203,Tryz.ntmps203;go_wp2_with fail;refine hC.out.mono ?_;rintro e w1 ⟨rfl,hb1⟩;have Hb1:=hid hb1;clear hb1;go_wp2;go_ret;exact⟨rfl,Hb1.out⟩
set_option maxRecDepth 20000 in
theorem zyb (a:Option Addr) (n c p r m:Nat) (hs:List Iv) (w:World) (hI:Ivs w a n c hs) (hp:w.cell? ⟨p,2,none⟩=some (.slice a n c)) (hq:w.cell? ⟨p,1,none⟩=some (.int .u64 m)):
 Calls Tryz.prog 202 #[.pointer (some ⟨p,0,none⟩)] w fun e w'=>e=.returned (yt (zae (jy (zcf (r,m,hs)) hs.length)))∧Below w.heap.size w w':=by
 have HI:=hid hI;have Hl:=hid hI.len;have hnm:n≤9223372036854775807:=Nat.le_trans hI.room hI.most;have Hq2:=hid (fun w' (h:Below w.heap.size w w')=>(h.cell (p:=⟨p,1,none⟩) (zh hq)).trans hq);clear hI;go_enter Tryz.func202,Tryz.ntmps202;go_wp2;clear hp hq;go_loopw [2,3,7] (fun _ _ i wr=>∃k:Nat,k≤n∧i=.int .i64 k∧Below w.heap.size w wr∧Hid (∀j,j<k→zcf (r,m,hs) j=none)) (fun _ _ i _=>n - (intOf i).toNat)
 case atStart=>exact⟨0,by omega,rfl,Below.refl _ _,fun j h=>by omega⟩
 case round=>
  obtain⟨k,hk,rfl,hb,ht⟩:=hrel;have Hb:=hid hb;clear hb;by_cases hkn:k<n
  · obtain⟨cb,co,rfl,hcell⟩:=(HI.out.below Hb.out).cells (by omega);obtain⟨c1,c2⟩:=hcell k hkn;have hq:=Hq2.out _ Hb.out;clear hcell;have h0:(0:Int)≤k:=by omega
    have h04:(k:Int)<(n:Int):=by omega
    have Hh:=hid (show zcf (r,m,hs) k=if m<(za hs k).2 then some (4,k) else none from rfl);have hkl:k<hs.length:=by rw[Hl.out];exact hkn
    generalize za hs k=s at*;obtain⟨x,u⟩:=s;simp only at c1 c2 Hh;have hal:Below wr.heap.size wr (wr.alloc (.cells #[.int .u64 x,.int .u64 u] 89)):=(Below.refl _ _).alloc (Nat.le_refl _) _;have hq2:=(hal.cell (p:=⟨p,1,none⟩) (zh hq)).trans hq;have Hal:=hid (Hb.out.trans (hal.mono Hb.out.size));clear hal;by_cases hu:m<u
    · have hd1:decide ((m:Int)<(u:Int))=true:=by rw[decide_eq_true_iff];omega
      have hd2:decide (m<u)=true:=by rw[decide_eq_true_iff];omega
      have Hr:=hid (zcq hkl ht.out (Hh.out.trans (if_pos hu)));clear hu;go_wp2_with fail;refine(zby 4 k _).mono ?_;rintro e w3 ⟨rfl,rfl⟩;go_wp2;go_ret;exact⟨by rw[Hr.out];rfl,by first | exact Hal.out | exact zy Hal.out _⟩
    · have hd1:decide ((m:Int)<(u:Int))=false:=by rw[decide_eq_false_iff_not];omega
      have hd2:decide (m<u)=false:=by rw[decide_eq_false_iff_not];omega
      have Hr:=hid (zfe ht.out (Hh.out.trans (if_neg hu)));clear hu;go_wp2;go_roundw
      case rel=>exact⟨k+1,by omega,by go_num,by first | exact Hal.out | exact zy Hal.out _,Hr.out⟩
      case measure=>simp[intOf];omega
  · obtain rfl:k=n:=by omega
    have Hr:=hid (zcr (n:=hs.length) (fun j hj=>ht.out j (by rw[←Hl.out];exact hj)));go_wp2;go_ret;exact⟨by rw[Hr.out];rfl,Hb.out⟩
set_option maxRecDepth 20000 in
theorem zyc (e:Ent) (a:Option Addr) (n c:Nat) (w:World) (hI:Ivs w a n c e.2.2) (hD:Door w):
 Calls Tryz.prog 170 #[zbm e (.slice a n c)] w fun y w'=>y=.returned (yt (zae (ckE e)))∧Below w.heap.size w w':=by
 obtain⟨r,m,hs⟩:=e;simp only at hI;have hal:Below w.heap.size w (w.alloc (.cells #[.int .u64 r,.int .u64 m,.slice a n c] 93)):=(Below.refl w.heap.size w).alloc (Nat.le_refl _) _;have hq:=zd2 w (.int .u64 r) (.int .u64 m) (.slice a n c) 93
 have hC2:=hid (fun w' (h:Below (w.alloc (.cells #[.int .u64 r,.int .u64 m,.slice a n c] 93)).heap.size (w.alloc (.cells #[.int .u64 r,.int .u64 m,.slice a n c] 93)) w')=>
  zya a n c w.heap.size hs w' (hI.below (hal.trans (h.mono hal.size))) (hD.below (Nat.le_refl _) (hal.trans (h.mono hal.size))) (hq w' h).2.2)
 have hC1:=hid (fun w' (h:Below (w.alloc (.cells #[.int .u64 r,.int .u64 m,.slice a n c] 93)).heap.size (w.alloc (.cells #[.int .u64 r,.int .u64 m,.slice a n c] 93)) w')=>
  zyb a n c w.heap.size r m hs w' (hI.below (hal.trans (h.mono hal.size))) (hq w' h).2.2 (hq w' h).2.1)
 have Hal:=hid hal;have Hck:=hid (show ckE (r,m,hs)=match ck hs with | some x=>some x | none=>jy (zcf (r,m,hs)) hs.length from rfl);clear hI hD hal hq;go_enter Tryz.func170,Tryz.ntmps170;go_wp2;obtain⟨fs,hfs⟩:∃fs:Obj,fs=.cells #[.func (.func 203) #[] #[.pointer (some ⟨w.heap.size,0,none⟩)],.func (.func 202) #[] #[.pointer (some ⟨w.heap.size,0,none⟩)]] 74:=⟨_,rfl⟩;have hb0:Below (w.alloc (.cells #[.int .u64 r,.int .u64 m,.slice a n c] 93)).heap.size (w.alloc (.cells #[.int .u64 r,.int .u64 m,.slice a n c] 93)) ((w.alloc (.cells #[.int .u64 r,.int .u64 m,.slice a n c] 93)).alloc fs):=(Below.refl _ _).alloc (Nat.le_refl _) _;have hrow:((w.alloc (.cells #[.int .u64 r,.int .u64 m,.slice a n c] 93)).alloc fs).heap[w.heap.size+1]?=some fs:=yh (by simp);have hsz:((w.alloc (.cells #[.int .u64 r,.int .u64 m,.slice a n c] 93)).alloc fs).heap.size=w.heap.size+2:=by simp
 rw[←hfs];generalize (w.alloc (.cells #[.int .u64 r,.int .u64 m,.slice a n c] 93)).alloc fs=W2 at*;have Hb0:=hid hb0;have Hz:=hid hb0.size
 have Hfn:=hid (show ∀w',Below W2.heap.size W2 w'→w'.cell? ⟨w.heap.size+1,0,none⟩=some (.func (.func 203) #[] #[.pointer (some ⟨w.heap.size,0,none⟩)])∧w'.cell? ⟨w.heap.size+1,1,none⟩=some (.func (.func 202) #[] #[.pointer (some ⟨w.heap.size,0,none⟩)]) from fun w' h=>by
  have hr:w'.heap[w.heap.size+1]?=some fs:=(h.block _ (by omega)).trans hrow;rw[hfs] at hr;exact⟨zx (i:=0) hr rfl,zx (i:=1) hr rfl⟩)
 clear hb0 hrow hsz hfs;go_loopw [5,6,12] (fun _ _ i wr=>Below W2.heap.size W2 wr∧Hid (i=.int .i64 0∨(i=.int .i64 1∧ck hs=none)∨(i=.int .i64 2∧ck hs=none∧jy (zcf (r,m,hs)) hs.length=none))) (fun _ _ i _=>2 - (intOf i).toNat)
 case atStart=>exact⟨Below.refl _ _,.inl rfl⟩
 case round=>
  obtain⟨hb,hi⟩:=hrel;have Hb:=hid hb;clear hb;have Hbw:=hid (Hb0.out.trans (Hb.out.mono Hz.out));have Hbz:=hid (Hal.out.trans (Hbw.out.mono Hal.out.size));obtain⟨f1,f2⟩:=Hfn.out _ Hb.out;rcases hi.out with rfl | ⟨rfl,h1⟩ | ⟨rfl,h1,h2⟩
  · have hC:=hid (hC2.out wr Hbw.out)
    cases h:ck hs with
    | none=>
     rw[h] at hC;simp only[zae,yt] at hC;have Hn:=hid h;clear h hi;go_wp2_with fail;refine hC.out.mono ?_;rintro e w1 ⟨rfl,hb1⟩;have Hb1:=hid (Hb.out.trans (hb1.mono Hb.out.size));clear hb1;go_wp2;go_roundw
     case rel=>exact⟨Hb1.out,.inr (.inl ⟨by go_num,trivial⟩)⟩
     case measure=>simp[intOf]
    | some x=>
     obtain⟨cd,ci⟩:=x;rw[h] at hC Hck;simp only[zae,yt] at hC Hck;clear h hi;go_wp2_with fail;refine hC.out.mono ?_;rintro e w1 ⟨rfl,hb1⟩;have Hb1:=hid (Hbz.out.trans (hb1.mono Hbz.out.size));clear hb1;go_wp2;go_ret;exact⟨by rw[Hck.out];rfl,Hb1.out⟩
  · have hC:=hid (hC1.out wr Hbw.out);rw[h1] at Hck;simp only at Hck
    cases h:jy (zcf (r,m,hs)) hs.length with
    | none=>
     rw[h] at hC;simp only[zae,yt] at hC;have Hn:=hid (And.intro h1 h);clear h hi h1;go_wp2_with fail;refine hC.out.mono ?_;rintro e w1 ⟨rfl,hb1⟩;have Hb1:=hid (Hb.out.trans (hb1.mono Hb.out.size));clear hb1;go_wp2;go_roundw
     case rel=>exact⟨Hb1.out,.inr (.inr ⟨by go_num,Hn.out.1,trivial⟩)⟩
     case measure=>simp[intOf]
    | some x=>
     obtain⟨cd,ci⟩:=x;rw[h] at hC Hck;simp only[zae,yt] at hC;clear h hi h1;go_wp2_with fail;refine hC.out.mono ?_;rintro e w1 ⟨rfl,hb1⟩;have Hb1:=hid (Hbz.out.trans (hb1.mono Hbz.out.size));clear hb1;go_wp2;go_ret;exact⟨by rw[Hck.out];rfl,Hb1.out⟩
  · rw[h1] at Hck;simp only at Hck;rw[h2] at Hck;clear h1 h2 hi;go_wp2;go_ret;exact⟨by rw[Hck.out];rfl,Hbz.out⟩
end
section
open Go.RowKit Go.Maps
def zaj (k:Kno) (d e x:Nat):Prop:=x=0∨(∃f∈k.take d,x∈y7 f.1)∨x∈y7 ((zb k d).1.take e)
theorem zyd (k:Kno) (x:Nat):zaj k 0 0 x↔x=0:=by simp[zaj,y7]
theorem zye (k:Kno) (x:Nat):zaj k k.length 0 x↔x∈za4 k:=by
 rw[zhf];simp[zaj,y7]
theorem zyf {k:Kno} {d:Nat} (hd:d<k.length) (x:Nat):zaj k d (zb k d).1.length x↔zaj k (d+1) 0 x:=by
 unfold zaj;have hs:k.take (d+1)=k.take d++[zb k d]:=by rw[List.take_succ_eq_append_getElem hd,ym hd]
 rw[hs,List.take_length];simp[y7]
theorem zyg {k:Kno} {d e:Nat} (he:e<(zb k d).1.length) (x:Nat):zaj k d (e+1) x↔((zaj k d e x∨x=(za (zb k d).1 e).1)∨((za (zb k d).1 e).2<18446744073709551615∧x=(za (zb k d).1 e).2+1)):=by
 unfold zaj;rw[List.take_succ_eq_append_getElem he,zt2,List.mem_append,←yw he];have:y7 [za (zb k d).1 e]=bnd (za (zb k d).1 e):=by simp[y7]
 rw[this,zct];simp only[or_assoc]
def rB (v:Value):Option (DataW Value×List MemPlace):=
 match v with
 | .bool b=>some (.lit (.bool b),[])
 | _=>none
structure SetS (w:World) (B n:Nat) (D:DataW Value) (S:Nat→Prop):Prop where
 own:w.ownsMap Tryz.prog 43 rB B n D
 keys:∀r:Nat,Maps.has D (.int .u64 (r:Int))=true↔S r
theorem SetS.put {w w':World} {B n m x:Nat} {D:DataW Value} {S S':Nat→Prop} (h:SetS w B n D S) (hown:w'.ownsMap Tryz.prog 43 rB B m (D.put (.int .u64 (x:Int)) (.lit (.bool true)))) (hS:∀r,S' r↔S r∨r=x):SetS w' B m (D.put (.int .u64 (x:Int)) (.lit (.bool true))) S':=by
 refine⟨hown,fun r=>?_⟩;rw[hS r];by_cases e:r=x
 · subst e;rw[has_put_same h.own.isMap (show WideAt.IsKeyLit (.int .u64 (r:Int)) from trivial)];simp
 · rw[has_put_other (zd5 e),h.keys r];simp[e]
theorem SetS.kept {w w':World} {B n:Nat} {D:DataW Value} {S:Nat→Prop} (h:SetS w B n D S) (hb:Below w.heap.size w w'):SetS w' B n D S:=⟨h.own.kept (zau hb) (by simp),h.keys⟩
theorem SetS.congr {w:World} {B n:Nat} {D:DataW Value} {S S':Nat→Prop} (h:SetS w B n D S) (hS:∀r,S r↔S' r):SetS w B n D S':=⟨h.own,fun r=>(h.keys r).trans (hS r)⟩
theorem zyh {H:Type} {P:Program} (w:World) {ops:Array Oper} {rest:List Oper} {o:Oper} {a:Act} {Q:Exit→Act→World→Prop}
 (hg:o.guard=none) (m x v:Operand) (t:TypeId) (hop:o.op=Op.insert t m x v)
 (k e:TypeId) (K:Keyed P k) (ht:P.underlying t=some (.map k e)) (R:Value→Option (DataW H×List MemPlace)) (b n:Nat) (D:DataW H)
 (hm:a.eval m=.map (some b)) (hown:w.ownsMap P k R b n D) (hn:n<maxLen) (key val:Value) (kl:Lit) (hx:a.eval x=key) (hv:a.eval v=val) (hkey:keyOf P k key=some kl)
 (d:DataW H) (ps:List MemPlace) (hval:R val=some (d,ps))
 (hK:∀w',w'.ownsMap P k R b (n+1) (D.put kl d)→w.grownBy w' (some b)→wpList P ops Q rest (a.put o.dst undef) w'):
 wpList P ops Q (o :: rest) a w:=by
 refine wpList_plain hg fun K' hK'=>?_
 obtain⟨w',hrun,r1,r2⟩:=hown.update K ht hn hkey hval;unfold Oper.wp;simp[execOp,hop,hm,hx,hv,hrun,Result.andThen];exact hK' _ _ (hK w' r1 r2)
structure Sift (k:Kno) (D:DataW Value) (left:Lit→Bool):Prop where
 keys:∀r:Nat,Maps.has D (.int .u64 (r:Int))=true↔(r∈za4 k∧(left (.int .u64 (r:Int))=true∨r∈zm k))
theorem zkp (x y:Nat):Lit.sameKey (.int .u64 (x:Int)) (.int .u64 (y:Int))=decide (x=y):=by
 by_cases e:x=y
 · subst e;simp[WideAt.sameKey_self (show WideAt.IsKeyLit (.int .u64 (x:Int)) from trivial)]
 · rw[sameKey_ne (zd5 e),decide_eq_false e]
theorem Sift.start {k:Kno} {D:DataW Value} (h:∀r:Nat,Maps.has D (.int .u64 (r:Int))=true↔r∈za4 k):Sift k D (Maps.has D):=
 ⟨fun r=>by rw[h r];constructor
            · exact fun hr=>⟨hr,.inl hr⟩
            · exact fun hr=>hr.1⟩
theorem Sift.stay {k:Kno} {D:DataW Value} {left:Lit→Bool} (h:Sift k D left) {x:Nat} (hx:x∈zm k):Sift k D (fun z=>left z && !z.sameKey (.int .u64 (x:Int))):=by
 refine⟨fun r=>?_⟩;rw[h.keys r,zkp];by_cases e:r=x
 · subst e;constructor
   · exact fun h1=>⟨h1.1,.inr hx⟩
   · exact fun h1=>⟨h1.1,.inr hx⟩
 · simp[e]
theorem Sift.drop {k:Kno} {D:DataW Value} {left:Lit→Bool} (h:Sift k D left) {x:Nat} (hx:x∉zm k):Sift k (D.del (.int .u64 (x:Int))) (fun z=>left z && !z.sameKey (.int .u64 (x:Int))):=by
 refine⟨fun r=>?_⟩;rw[zkp];by_cases e:r=x
 · subst e;rw[has_del_same];simp[hx]
 · rw[has_del_other (zd5 e),h.keys r];simp[e]
theorem Sift.all {k:Kno} {D:DataW Value} {left:Lit→Bool} (h:Sift k D left) (hl:∀kl,left kl=false) (r:Nat):Maps.has D (.int .u64 (r:Int))=true↔r∈zm k:=by
 rw[h.keys r,hl];constructor
 · rintro⟨-,h1 | h1⟩
   · cases h1
   · exact h1
 · exact fun h1=>⟨(zfx.1 h1).1,.inr h1⟩
structure Coll (D:DataW Value) (left:Lit→Bool) (L:List Nat):Prop where
 nodup:L.Nodup
 mem:∀x:Nat,x∈L↔(Maps.has D (.int .u64 (x:Int))=true∧left (.int .u64 (x:Int))=false)
theorem Coll.start (D:DataW Value):Coll D (Maps.has D) []:=⟨List.nodup_nil,fun x=>by cases Maps.has D (.int .u64 (x:Int)) <;> simp⟩
theorem Coll.step {D:DataW Value} {left:Lit→Bool} {L:List Nat} (h:Coll D left L) {x:Nat} (hh:Maps.has D (.int .u64 (x:Int))=true) (hl:left (.int .u64 (x:Int))=true):Coll D (fun z=>left z && !z.sameKey (.int .u64 (x:Int))) (L++[x]):=by
 have hn:x∉L:=fun hx=>by
  have:=((h.mem x).1 hx).2;rw[hl] at this;cases this
 refine⟨List.nodup_append.2 ⟨h.nodup,by simp,fun a ha b hb=>by simp at hb;subst hb;exact fun e=>hn (e ▸ ha)⟩,fun y=>?_⟩;rw[List.mem_append,List.mem_singleton,h.mem y,zkp];by_cases e:y=x
 · subst e;simp[hh]
 · simp[e]
theorem zpi:∀{M:List Nat},M.Pairwise (· ≤·)→M.Nodup→Asc M
 | [],_,_=>trivial
 | a :: l,h,hn=>by
   obtain⟨h1,h2⟩:=List.pairwise_cons.1 h;obtain⟨h3,h4⟩:=List.nodup_cons.1 hn;refine zdo (fun y hy=>?_) (zpi h2 h4);have:=h1 y hy;have:a≠y:=fun e=>h3 (e ▸ hy)
   omega
theorem zyi {k:Kno} {D:DataW Value} {left:Lit→Bool} {L M:List Nat} (h:Coll D left L) (hl:∀kl,left kl=false) (hk:∀r:Nat,Maps.has D (.int .u64 (r:Int))=true↔r∈zm k) (hp:M.Perm L) (hM:M.Pairwise (· ≤·)):M=zm k:=
 zi4 (zpi hM (hp.nodup_iff.2 h.nodup)) (zdb k) fun x=>by rw[hp.mem_iff,h.mem x,hl,←hk x];simp
