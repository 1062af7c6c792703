/- Walks and laws, joined: Wb40. -/
import Derived.Test.YtdnjfnofjaoajaaGreatDoorWb38
set_option linter.unusedVariables false
set_option maxHeartbeats 16000000
namespace Go.Proofs.YtdnjfnofjaoajaaGreatDoor
open Lib (hid)
section
open Go.RowKit
theorem z82 {w:World} {base n:Nat} {T:TypeId} {v:Value} {l:List Nat} (h:w.ownsRow base T 1 v n (yw l)):∃a cap,v=.slice a n cap∧I64s w a n cap l:=by
 have hlen:l.length=n:=by have:=h.1;rw[zmu] at this;omega
 rcases h.2 with ⟨rfl,rfl⟩ | ⟨g,cap,cur,rfl,hg,hh,hnc,hcm,_⟩
 · exact⟨none,0,rfl,hlen,by omega,by omega,fun _=>rfl,fun h=>by omega⟩
 · refine⟨_,_,rfl,hlen,hnc,by unfold maxLen at hcm;omega,(by intro h;cases h),fun hn=>⟨g,0,rfl,fun i hi=>?_⟩⟩;have hc:=h.cells (g:=g) rfl i (.int .i64 ((nth l i:Nat):Int)) (zgg l i (by omega));rw[yp] at hc;exact hc
theorem z83 {e:Ent} (h:zq e.2.2) (hm:e.2.1<18446744073709551616):zq (qz e):=(zai (g:=jl) (zer (by omega) hm) h rfl).2.2
end
section
open Go.RowKit Go.Shelf
theorem z84 {w:World} {a:Option Addr} {n c:Nat} {l:List Iv} (h:Ivs w a n c l):IvsT w w.heap.size a n c l:=by
 refine⟨h,fun hn p hp=>.inl ?_⟩;obtain⟨b,o,ha,hc⟩:=h.cells hn;rw[ha] at hp;cases hp;exact ze (hc 0 hn).1
end
section
open Go.RowKit
set_option maxRecDepth 20000 in
theorem z85 (a:Option Addr) (n cap r:Nat) (v:Vec) (w:World) (hE:Ents w a n cap v):
 Calls Tryz.prog 256 #[.slice a n cap,.int .u64 r] w fun x w'=>x=.returned (.int .i64 (zax (zey v r)))∧Below w.heap.size w w':=by
 have HE:=hid hE;have Hl:=hid hE.len;have hm:n≤9223372036854775807:=Nat.le_trans hE.room hE.most;obtain⟨f,hf⟩:∃f:Nat→Option Nat,f=fun i=>if (zc v i).1=r then some i else none:=⟨_,rfl⟩
 have Hck:=hid (show zey v r=qj f v.length from by rw[hf];rfl);have Hf:=hid (show ∀i,f i=if (zc v i).1=r then some i else none from fun i=>by rw[hf]);clear hE hf;go_enter Tryz.func256,Tryz.ntmps256;go_wp2;go_loopw [5] (fun i wr=>∃k:Nat,k≤n∧i=.int .i64 k∧Below w.heap.size w wr∧Hid (∀j,j<k→f j=none)) (fun i _=>n - (intOf i).toNat)
 case atStart=>exact⟨0,by omega,rfl,Below.refl _ _,fun j h=>by omega⟩
 case round=>
  obtain⟨k,hk,rfl,hb,ht⟩:=hrel;have Hb:=hid hb;clear hb;by_cases hkn:k<n
  · have hkv:k<v.length:=by rw[Hl.out];exact hkn
    have HEr:=hid (HE.out.below Hb.out);obtain⟨bb,oo,rfl⟩:=HEr.out.some (by omega);obtain⟨q1,-,-⟩:=HEr.out.at hkn _ (Below.refl _ _);have Hat:=hid (Hf.out k);generalize (zc v k).1=e at*;have h0:(0:Int)≤k:=by omega
    have h04:(k:Int)<(n:Int):=by omega
    by_cases he:e=r
    · have Hr:=hid (jg hkv ht.out (Hat.out.trans (if_pos he)));subst he;clear Hat Hf;go_wp2;go_ret;exact⟨by rw[Hck.out,Hr.out];rfl,Hb.out⟩
    · have Hr:=hid (ko ht.out (Hat.out.trans (if_neg he)));have hd:((e:Int) == (r:Int))=false:=by rw[beq_eq_false_iff_ne];omega
      clear he Hat;go_wp2;go_roundw
      case rel=>exact⟨k+1,by omega,by go_num,Hb.out,Hr.out⟩
      case measure=>simp[intOf];omega
  · obtain rfl:k=n:=by omega
    have Hr:=hid (k7 (n:=v.length) (fun j hj=>ht.out j (by rw[←Hl.out];exact hj)));go_wp2;go_ret;exact⟨by rw[Hck.out,Hr.out];rfl,Hb.out⟩
theorem z86 {w:World} {base inner g n c p:Nat} {k:Kno} {ss:List (Value×Value)} (hn:k.length=n) (ho:w.ownsRow base 85 2 (.slice (some ⟨g,0,none⟩) n c) n (yt ss)) (hh:PartsT w inner k ss) (hb:inner≤base) (f:Frg) (x y:Value)
 (hx:IvSl w inner x f.1) (hy:EnSl w inner y f.2):OwnK ((w.setCell ⟨g,p*2,none⟩ x).setCell ⟨g,p*2+1,none⟩ y) base inner (.slice (some ⟨g,0,none⟩) n c) (k.set p f):=by
 have hrow:∃C fr,w.heap[g]?=some (.cells C 85 fr)∧base≤g:=by
  rcases ho.2 with ⟨h,_⟩ | ⟨g',cap,cur,h,hg,hr,_⟩
  · cases h
  · cases h;exact⟨_,_,hr,hg⟩
 obtain⟨C,fr,hr,hg⟩:=hrow;have h1:=(ho.stored (p*2) x).1;have h2:=(h1.stored (p*2+1) y).1;rw[znx] at h2
 have hr2:∃C' fr',(w.setCell ⟨g,p*2,none⟩ x).heap[g]?=some (.cells C' 85 fr'):=by
  rcases h1.2 with ⟨h,_⟩ | ⟨g',cap,cur,h,hg',hr',_⟩
  · cases h
  · cases h;exact⟨_,_,hr'⟩
 obtain⟨C',fr',hr2⟩:=hr2;have s1:Steady inner zbp w (w.setCell ⟨g,p*2,none⟩ x):=Steady.setCell (a:=⟨g,p*2,none⟩) hr (Nat.le_trans hb hg) (by rintro(h | h) <;> cases h);have s2:Steady inner zbp (w.setCell ⟨g,p*2,none⟩ x) ((w.setCell ⟨g,p*2,none⟩ x).setCell ⟨g,p*2+1,none⟩ y):=Steady.setCell (a:=⟨g,p*2+1,none⟩) hr2 (Nat.le_trans hb hg) (by rintro(h | h) <;> cases h);have s:=s1.trans s2;refine⟨ss.set p (x,y),by rw[List.length_set,hn];exact h2,?_⟩;exact(hh.steady s (.inl rfl) (.inr rfl)).set (hx.steady s (.inl rfl)) (hy.steady s (.inl rfl) (.inr rfl))
theorem z87 (op:Nat):gOf op false false=false:=by
 unfold gOf;split
 · rfl
 · split <;> rfl
theorem zxi (aa ab:Option Addr) (na ca nb cb:Nat) (a b:List Iv) (w:World) (hIa:Ivs w aa na ca a) (hIb:Ivs w ab nb cb b) (hn:2*a.length+2*b.length+1≤100000):
 Calls Tryz.prog 255 #[.slice aa na ca,.slice ab nb cb] w fun e w'=>zcb w.heap.size (opL jl a b) e w'∧Below w.heap.size w w':=by
 have hC:=hid (zl5 aa ab na ca nb cb 2 a b w hIa hIb (by omega) hn);clear hIa hIb hn;go_enter Tryz.func255,Tryz.ntmps255;go_wp2_with fail;refine hC.out.mono ?_;rintro e w1 ⟨⟨v,rfl,ho⟩,hb⟩;have Ho:=hid ho;have Hb:=hid hb;clear ho hb;go_wp2;go_ret;exact⟨⟨v,rfl,Ho.out⟩,Hb.out⟩
set_option maxRecDepth 20000 in
theorem z88 (a:Option Addr) (n cap x y:Nat) (k:Kno) (w:World) (hE:Frags w a n cap k):
 Calls Tryz.prog 223 #[.slice a n cap,.int .u64 x,.int .u64 y] w fun e w'=>e=.returned (.bool (decide (zw k x=zw k y)))∧Below w.heap.size w w':=by
 have HE:=hid hE;have Hl:=hid hE.len;have hm:n≤9223372036854775807:=Nat.le_trans hE.room hE.most;clear hE;go_enter Tryz.func223,Tryz.ntmps223;go_wp2;go_loopw [7] (fun i wr=>∃d:Nat,d≤n∧i=.int .i64 d∧Below w.heap.size w wr∧Hid (∀j,j<d→mem (za k j).1 x=mem (za k j).1 y)) (fun i _=>n - (intOf i).toNat)
 case atStart=>exact⟨0,by omega,rfl,Below.refl _ _,fun j h=>by omega⟩
 case round=>
  obtain⟨d,hd,rfl,hb,ht⟩:=hrel;have Hb:=hid hb;clear hb;by_cases hdn:d<n
  · have hdk:d<k.length:=by rw[Hl.out];exact hdn
    have HEr:=hid (HE.out.below Hb.out);obtain⟨bb,oo,rfl⟩:=HEr.out.some (by omega);obtain⟨x1,m,c,y1,m',c',hq⟩:=HEr.out.fix hdn;have Hq:=hid (fun w' (h:Below wr.heap.size wr w')=>(hq w' h).1);have hC:=hid (fun w' h=>zf5 x1 m c x (za k d).1 w' (hq w' h).2.1);have hD:=hid (fun w' h=>zf5 x1 m c y (za k d).1 w' (hq w' h).2.1);have Hyes:=hid (fun h=>zi4 (p:=fun j=>mem (za k j).1 x=mem (za k j).1 y) ht.out h);have Hno:=hid (show mem (za k d).1 x≠mem (za k d).1 y→zw k x≠zw k y from fun h h2=>h (zrm h2 _ (yb hdk)));have h0:(0:Int)≤d:=by omega
    have h04:(d:Int)<(n:Int):=by omega
    clear hq;generalize za k d=f at*;generalize mem f.1 x=b1 at*;generalize mem f.1 y=b2 at*;go_wp2_with fail;go_cut [28] (fun t wc=>t=.bool (b1 != b2)∧Hid (Below wr.heap.size wr wc))
    case first=>
     refine qi (by kernel_rfl) (by kernel_rfl) ?_
     repeat (go_big_quiet_step ((intro hw;first
      | rfl
      | (have q0:=Hq.out _ hw
         first
         | (go_at_call 172;first | (with_reducible exact kp hw (hC.out _ hw)) | (with_reducible exact kp hw (hD.out _ hw)))
         | (go_simp
            first | rfl | exact⟨rfl,hw⟩ | (trace_state;fail))))))
     refine wpQuiet_nil ?_;intro w3 hb3;go_wp2;go_meet
     exact⟨by first | rfl | (cases b1 <;> cases b2 <;> rfl),hb3⟩
    case rest=>
     obtain⟨rfl,hb2⟩:=hcut;have Hb2:=hid (Hb.out.trans (hb2.out.mono Hb.out.size));clear hb2;by_cases h:b1=b2
     · have hbb:(b1 != b2)=false:=by rw[h];simp
       have Hs:=hid (Hyes.out h);rw[hbb];clear h hbb Hyes Hno;go_wp2;go_roundw
       case rel=>exact⟨d+1,by omega,by go_num,Hb2.out,Hs.out⟩
       case measure=>simp[intOf];omega
     · have hbb:(b1 != b2)=true:=by rw[bne_iff_ne];exact h
       have Hs:=hid (show decide (zw k x=zw k y)=false from by rw[decide_eq_false_iff_not];exact Hno.out h);rw[hbb];clear h hbb Hyes Hno;go_wp2;go_ret;exact⟨by rw[Hs.out];rfl,Hb2.out⟩
  · obtain rfl:d=n:=by omega
    have Hr:=hid (show decide (zw k x=zw k y)=true from by
     rw[decide_eq_true_iff]
     exact zrl fun f hf=>by
      obtain⟨i,hi,rfl⟩:=List.getElem_of_mem hf;have:=ht.out i (by rw[←Hl.out];exact hi);rwa [ym hi] at this)
    go_wp2;go_ret;exact⟨by rw[Hr.out];rfl,Hb.out⟩
theorem Tryz.info_lst:(Tryz.prog.info? 81).map (fun i=>(i.zero,i.size,i.bytes))=some (some (.slice none 0 0),1,24):=by kernel_rfl
theorem z89 {w:World} {ops:Array Oper} {rest:List Oper} {o:Oper} {a:Act} {Q:Exit→Act→World→Prop} (hgd:o.guard=none) (s x:Operand)
 (ho:o.op=.call { callee:=.builtin .append,args:= #[s,x],argTypes:= #[309,309] }) (hty:o.type=309)
 (base:Nat) (v:Value) (n:Nat) (xs:List Value) (hs:a.eval s=v) (hown:w.ownsRow base 81 1 v n xs) (A:Option Addr) (c:Nat) (u:Value) (hu:u.oneCell'=true) (hx:a.eval x=.slice A 1 c) (hr:Rd w 1 A 1 [u]) (hb:n+1≤1000000) (hbase:base≤w.heap.size)
 (h:∀v' w',w'.ownsRow base 81 1 v' (n+1) (xs++[u])→w.grownBy w' v.ownBlock→wpList Tryz.prog ops Q rest (a.put o.dst v') w'):wpList Tryz.prog ops Q (o :: rest) a w:=by
 obtain⟨v',w',hrun,h1,h2⟩:=zcp base _ _ _ _ 1 24 Tryz.underlying309 Tryz.info_lst rfl (by omega) v n _ hown A 1 c _ hr (by intro z hz;simp at hz;subst hz;exact hu) (by unfold maxLen;omega) (by omega) hbase;exact jf _ _ _ ho (by simp[Region.wanted,hgd]) _ _ hs hx v' w' (by rw[hty];exact hrun) (h v' w' h1 h2)
def zdx (k:Kno) (d:Nat):List Nat:=((jh k).take d).filter fun x=>decide (x=0) || decide (zw k (x - 1)≠zw k x)
theorem z9a {k:Kno} {d:Nat} (h:d<(jh k).length):zdx k (d+1)=zdx k d++(if (decide (nth (jh k) d=0) || decide (zw k (nth (jh k) d - 1)≠zw k (nth (jh k) d)))=true then [nth (jh k) d] else []):=by
 unfold zdx;have e:(jh k)[d]=nth (jh k) d:=by simp[nth,h]
 rw[List.take_succ_eq_append_getElem h,List.filter_append,e,List.filter_cons,List.filter_nil]
theorem z9b (k:Kno):zdx k (jh k).length=zx k:=by unfold zdx zx;rw[List.take_length]
theorem z9c (k:Kno) (d:Nat):(zdx k d).length≤(jh k).length:=by
 have:=List.length_filter_le (fun x=>decide (x=0) || decide (zw k (x - 1)≠zw k x)) ((jh k).take d);have h2:((jh k).take d).length≤(jh k).length:=by rw[List.length_take];omega
 unfold zdx;omega
set_option maxRecDepth 20000 in
theorem z9d (a:Option Addr) (n cap:Nat) (k:Kno) (w:World) (hE:Frags w a n cap k) (hL:LtK k) (hn:n≤500) (hA:(qd (k.map (·.1))).length≤2000):
 Calls Tryz.prog 169 #[.slice a n cap] w fun x w'=>(∃y,x=.returned y∧w'.ownsRow w.heap.size 52 1 y (zx k).length (zi (zx k)))∧Below w.heap.size w w':=by
 have HE:=hid hE;have HL:=hid hL;have HA:=hid hA;have Hl:=hid hE.len;clear hE hL hA;go_enter Tryz.func169,Tryz.ntmps169;go_wp2;go_loopw [3,4] (fun y i wr=>∃d:Nat,d≤n∧i=.int .i64 d∧Below w.heap.size w wr∧Hid (∃xs,LstTo w k d xs∧wr.ownsRow w.heap.size 81 1 y d xs)) (fun _ i _=>n - (intOf i).toNat)
 case atStart=>exact⟨0,by omega,rfl,Below.refl _ _,[],⟨rfl,fun i h=>by omega⟩,World.ownsRow_nil _ _ _ _⟩
 case round=>
  obtain⟨d,hd,rfl,hb,ho⟩:=hrel;have Hb:=hid hb;clear hb;obtain⟨xs,hxs,ho⟩:=ho.out;have Hxs:=hid hxs;have Ho:=hid ho;clear hxs ho;by_cases hdn:d<n
  · have hdk:d<k.length:=by rw[Hl.out];exact hdn
    obtain⟨bb,oo,rfl⟩:=HE.out.some (by omega);obtain⟨x,m,c,y1,m',c',hq⟩:=HE.out.fix hdn;have Hsn:=hid (Hxs.out.snoc (fun w' h=>(hq w' h).2.1));have q1:=(hq wr Hb.out).1;have h0:(0:Int)≤d:=by omega
    have h04:(d:Int)<(n:Int):=by omega
    clear hq;go_wp2_with (at_builtin;refine z89 rfl (.tmp 14) (.tmp 20) rfl rfl w.heap.size _ _ xs rfl (Ho.out.alloc _) _ 1 (.slice x m c) rfl rfl (yg (zg _ _ _ (by simp)) rfl rfl) (by omega) (by have:=Hb.out.size;simp;omega) ?_;intro v' w8 ho8 hg8);have Hb8:=hid (Below.grown (B:=w.heap.size) (Hb.out.alloc Hb.out.size _) hg8 (by have:=Hb.out.size;simp;omega) (fun k hk=>(Ho.out.lt k hk).1));go_roundw
    case rel=>exact⟨d+1,by omega,by go_num,Hb8.out,_,Hsn.out,ho8⟩
    case measure=>simp[intOf];omega
  · obtain rfl:d=n:=by omega
    obtain⟨aR,cR,rfl,hR⟩:=Hxs.out.rls Hl.out Hb.out Ho.out;have hC:=hid (zxf aR d cR (k.map (·.1)) wr hR (by omega) (by have:=HA.out;omega));clear hR;go_wp2_with fail;refine hC.out.mono ?_;rintro e w2 ⟨⟨v,L,rfl,ho2,hAs,hmem⟩,hb2⟩;have Hb2:=hid (Hb.out.trans (hb2.mono Hb.out.size));have hLk:L=jh k:=zxa hAs hmem;subst hLk;obtain⟨aU,cU,rfl,hU⟩:=zbf ho2 (znh HL.out);have HU:=hid hU;have Hall:=hid (z9b k);have HLn:=hid (show (jh k).length≤2000 from Nat.le_trans (zcz hAs fun y hy=>(hmem y).1 hy) HA.out);have HLt:=hid (znh HL.out);clear hb2 ho2 hAs hmem hU hC;obtain⟨N,hN⟩:∃N,N=(jh k).length:=⟨_,rfl⟩;have HN:=hid hN;rw[←hN] at HU HLn Hall ⊢;clear hN;have hN2:N≤2000:=HLn.out;go_wp2;go_loopw [6,7] (fun y i wr=>∃e:Nat,e≤N∧i=.int .i64 e∧Below w2.heap.size w2 wr∧Hid (wr.ownsRow w2.heap.size 52 1 y (zdx k e).length (zi (zdx k e)))) (fun _ i _=>N - (intOf i).toNat)
    case atStart=>exact⟨0,by omega,rfl,Below.refl _ _,World.ownsRow_nil _ _ _ _⟩
    case round=>
     obtain⟨e,he,rfl,hbe,hoe⟩:=hrel;have Hbe:=hid hbe;clear hbe;have Hbw:=hid (Hb2.out.trans (Hbe.out.mono Hb2.out.size));by_cases heN:e<N
     · have HUr:=hid (HU.out.below Hbe.out);obtain⟨bS,oS,rfl,hcS⟩:=HUr.out.cells (by omega);have q1:=hcS e heN;have hcl:=HUr.out.room;have Hq:=hid (fun w' (h:Below wr.heap.size wr w')=>(h.cell (p:=⟨bS,oS+e,none⟩) (ze q1)).trans q1);have Hst:=hid (z9a (k:=k) (d:=e) (by rw[←HN.out];exact heN));have Hsl:=hid (z9c k e);have hxlt:=HLt.out _ (za5 (show e<(jh k).length by rw[←HN.out];exact heN));rw[←HN.out] at Hsl;have hD:=hid (fun y w' (h:Below wr.heap.size wr w')=>z88 a _ cap y (nth (jh k) e) k w' (HE.out.below (Hbw.out.trans (h.mono Hbw.out.size))));clear hcS q1;generalize zdx k e=S0 at*;generalize nth (jh k) e=x at*;have h0:(0:Int)≤e:=by omega
       have h04:(e:Int)<(N:Int):=by omega
       obtain⟨bt,hbt⟩:∃bt,bt=(decide (x=0) || decide (zw k (x - 1)≠zw k x)):=⟨_,rfl⟩;rw[←hbt] at Hst;go_wp2_with fail;go_cut [48] (fun t wc=>t=.bool bt∧Hid (Below wr.heap.size wr wc))
       case first=>
        by_cases hx0:x=0
        · have hbt1:bt=true:=by rw[hbt,hx0];rfl
          have hz:((x:Int) == 0)=true:=by rw[hx0];rfl
          have Hbt:=hid hbt1;clear hbt hbt1;refine qi (by kernel_rfl) (by kernel_rfl) ?_
          repeat (go_big_quiet_step ((intro hw;first
           | rfl
           | (have q0:=Hq.out _ hw
              go_simp;first | rfl | exact⟨rfl,hw⟩ | (trace_state;fail)))))
          refine wpQuiet_nil ?_;intro w3 hb3;go_wp2;go_meet
          exact⟨by rw[Hbt.out];try rfl,hb3⟩
        · have hbt1:bt= !decide (zw k (x - 1)=zw k x):=by rw[hbt];simp[hx0]
          have hz:((x:Int) == 0)=false:=by rw[beq_eq_false_iff_ne];omega
          have hsub:IntKind.u64.wrap ((x:Int) - 1)=((x - 1:Nat):Int):=by rw[IntKind.wrap_u64];omega
          have hD1:=hid (hD.out (x - 1));generalize decide (zw k (x - 1)=zw k x)=bm at*;generalize x - 1=x1 at*;have Hbt:=hid hbt1;clear hbt hx0 hbt1;refine qi (by kernel_rfl) (by kernel_rfl) ?_
          repeat (go_big_quiet_step ((intro hw;first
           | rfl
           | (have q0:=Hq.out _ hw
              first
              | (go_at_call 223;exact kp hw (hD1.out _ hw))
              | (go_simp
                 first | rfl | exact⟨rfl,hw⟩ | (trace_state;fail))))))
          refine wpQuiet_nil ?_;intro w3 hb3;go_wp2;go_meet
          exact⟨by rw[Hbt.out];try rfl,hb3⟩
       case rest=>
        obtain⟨rfl,hb3⟩:=hcut;have Hb3:=hid (Hbe.out.trans (hb3.out.mono Hbe.out.size));have Ho3:=hid (zm hoe.out hb3.out);have q2:=Hq.out _ hb3.out;clear hb3 hbt
        cases bt with
        | false=>
         rw[if_neg (by simp),List.append_nil] at Hst;go_wp2;go_roundw
         case rel=>exact⟨e+1,by omega,by go_num,Hb3.out,by rw[Hst.out];exact Ho3.out⟩
         case measure=>simp[intOf];omega
        | true=>
         rw[if_pos rfl] at Hst;go_wp2_with (at_builtin;refine zsb rfl (.tmp 49) (.tmp 54) rfl rfl w2.heap.size _ _ S0 rfl (Ho3.out.alloc _) _ 1 _ [x] rfl (yg (zg _ _ _ (by simp)) rfl rfl) (by have:=Hsl.out;omega) (by have:=Hb3.out.size;simp;omega) ?_;intro v' w8 ho8 hg8);have Hb8:=hid (Below.grown (B:=w2.heap.size) (Hb3.out.alloc Hb3.out.size _) hg8 (by have:=Hb3.out.size;simp;omega) (fun k hk=>(Ho3.out.lt k hk).1));go_roundw
         case rel=>exact⟨e+1,by omega,by go_num,Hb8.out,by rw[Hst.out,List.length_append];exact ho8⟩
         case measure=>simp[intOf];omega
     · obtain rfl:e=N:=by omega
       have Ho:=hid hoe.out;rw[Hall.out] at Ho;go_wp2;go_ret;exact⟨⟨_,rfl,y9 Ho.out Hb2.out.size⟩,Hbw.out⟩
theorem zxj (e:Ent) (a:Option Addr) (n c:Nat) (w:World) (hI:Ivs w a n c e.2.2) (hm:e.2.1<18446744073709551616) (hn:2*e.2.2.length+3≤100000):
 Calls Tryz.prog 219 #[ky e (.slice a n c)] w fun x w'=>zcb w.heap.size (qz e) x w'∧Below w.heap.size w w':=by
 obtain⟨r,m,hs⟩:=e;simp only at hI hm hn;have HI:=hid hI;have Hn:=hid hn;have Hm:=hid hm;clear hI hn hm;obtain⟨q0,q1,q2⟩:=zcc w (.int .u64 r) (.int .u64 m) (.slice a n c) 101 _ (Below.refl _ _);go_enter Tryz.func219,Tryz.ntmps219;go_wp2_with fail;clear q0 q1 q2;have hb1:Below w.heap.size w ((w.alloc (.cells #[.int .u64 r,.int .u64 m,.slice a n c] 101)).alloc (.cells #[.int .u64 0,.int .u64 m] 99)):=((Below.refl _ _).alloc (Nat.le_refl _) _).alloc (by simp) _;have hr:((w.alloc (.cells #[.int .u64 r,.int .u64 m,.slice a n c] 101)).alloc (.cells #[.int .u64 0,.int .u64 m] 99)).heap[w.heap.size+1]?=some (.cells #[.int .u64 0,.int .u64 m] 99):=z7 (by simp);have Hb1:=hid hb1;refine(zxi _ _ _ _ _ _ [(0,m)] hs _ (zgk (s:=(0,m)) hr ⟨by simp,Hm.out⟩) (HI.out.below hb1) (by have:=Hn.out;simp;omega)).mono ?_;rintro e w1 ⟨⟨v,rfl,ho⟩,hb⟩;have Ho:=hid ho;have Hb:=hid hb;clear ho hb hr hb1;go_wp2;go_ret;exact⟨⟨v,rfl,y9 Ho.out Hb1.out.size⟩,Hb1.out.trans (Hb.out.mono Hb1.out.size)⟩
set_option maxRecDepth 20000 in
theorem zxk (r:Nat) (a:Option Addr) (n c:Nat) (L:List Iv) (w:World) (hI:Ivs w a n c L) (hn:2*L.length+3≤100000):
 Calls Tryz.prog 218 #[.int .u64 r,.slice a n c] w fun x w'=>zc0 w.heap.size (ofE r L) x w'∧Below w.heap.size w w':=by
 rcases zcm L with rfl | ⟨l,t,rfl⟩
 · obtain rfl:n=0:=by simpa using hI.len.symm
   have e:ofE r []=none:=rfl;rw[e];clear hI hn e;go_enter Tryz.func218,Tryz.ntmps218;go_wp2;refine bodyPost_ret (v:=.tuple #[ky (0,0,[]) (.slice none 0 0),.bool false]) (by simp[results,Tryz.results218,go_sem]) rfl ?_;exact⟨rfl,(Below.refl _ _).alloc (Nat.le_refl _) _⟩
 · have hne:l++[t]≠[]:=by simp
   have htop:ki (l++[t])=t.2:=by simp[ki]
   have e:ofE r (l++[t])=some (r,t.2,opL jl [(0,t.2)] (l++[t])):=by unfold ofE;rw[if_neg hne,htop]
   rw[e];have hlen:=hI.len;rw[List.length_append,List.length_singleton] at hlen;obtain⟨bb,oo,rfl,hcell⟩:=hI.cells (by omega);obtain⟨-,c2⟩:=hcell l.length (by omega);have hnt:zb (l++[t]) l.length=t:=by simp[zb]
   rw[hnt] at c2;have HI:=hid hI;have Hn:=hid hn;have Ht:=hid (hI.lt t (by simp)).2;obtain⟨k,hk⟩:∃k:Nat,k=l.length:=⟨_,rfl⟩;rw[←hk] at c2 hlen;have hsub:IntKind.i64.wrap ((n:Int) - 1)=(k:Int):=by have:=hI.room;have:=hI.most;rw[IntKind.wrap_i64];omega
   have hz:((n:Int) == 0)=false:=by rw[beq_eq_false_iff_ne];omega
   have h01:(k:Int)<(n:Int):=by omega
   have hkn:k<n:=by omega
   have hnc:=hI.room;obtain⟨tx,ty⟩:=t;simp only at c2 Ht htop ⊢;have hal:Below w.heap.size w (w.alloc (.cells #[.int .u64 0,.int .u64 0,.slice none 0 0] 101)):=(Below.refl _ _).alloc (Nat.le_refl _) _;have q1:=(hal.cell (ze c2)).trans c2;have Ha:=hid hal;clear hI hn hcell hne htop e hk hlen hal hnt;go_enter Tryz.func218,Tryz.ntmps218;go_wp2_with fail
   have hb1:Below (w.heap.size+1) (w.alloc (.cells #[.int .u64 0,.int .u64 0,.slice none 0 0] 101)) ((w.alloc (.cells #[.int .u64 0,.int .u64 0,.slice none 0 0] 101)).alloc (.cells #[.int .u64 0,.int .u64 ty] 99)):=
    (show (w.alloc (.cells #[.int .u64 0,.int .u64 0,.slice none 0 0] 101)).heap.size=w.heap.size+1 from by simp) ▸ ((Below.refl _ _).alloc (Nat.le_refl _) _)
   have hrw:((w.alloc (.cells #[.int .u64 0,.int .u64 0,.slice none 0 0] 101)).alloc (.cells #[.int .u64 0,.int .u64 ty] 99)).heap[w.heap.size+1]?=some (.cells #[.int .u64 0,.int .u64 ty] 99):=z7 (by simp);have Hb1:=hid hb1;have hsz1:(w.alloc (.cells #[.int .u64 0,.int .u64 0,.slice none 0 0] 101)).heap.size=w.heap.size+1:=by simp
   have hsz2:((w.alloc (.cells #[.int .u64 0,.int .u64 0,.slice none 0 0] 101)).alloc (.cells #[.int .u64 0,.int .u64 ty] 99)).heap.size=w.heap.size+2:=by simp
   have Hs1:=hid hsz1;have Hs2:=hid hsz2;clear hsz1 hsz2;refine(zxi _ _ _ _ _ _ [(0,ty)] (l++[(tx,ty)]) _ (zgk (s:=(0,ty)) hrw ⟨by simp,Ht.out⟩) ((HI.out.below Ha.out).below (Hs1.out ▸ hb1)) (by have:=Hn.out;simp at this ⊢;omega)).mono ?_;rintro e w2 ⟨⟨v,rfl,ho⟩,hb2⟩;have Ho:=hid ho;have Hb2:=hid (Hb1.out.trans (hb2.mono (by rw[Hs2.out];omega)));have hrow:w2.heap[w.heap.size]?=some (.cells #[.int .u64 0,.int .u64 0,.slice none 0 0] 101):=(Hb2.out.block _ (by omega)).trans (z7 rfl);have z0:w2.cell? ⟨w.heap.size,0,none⟩=some (.int .u64 0):=zu (i:=0) hrow rfl;have z1:w2.cell? ⟨w.heap.size,1,none⟩=some (.int .u64 0):=zu (i:=1) hrow rfl;have z2:w2.cell? ⟨w.heap.size,2,none⟩=some (.slice none 0 0):=zu (i:=2) hrow rfl;have z3:w2.frozen? ⟨w.heap.size,0,none⟩=false:=by simp[World.frozen?,hrow]
   have z4:w2.frozen? ⟨w.heap.size,1,none⟩=false:=by simp[World.frozen?,hrow]
   have z5:w2.frozen? ⟨w.heap.size,2,none⟩=false:=by simp[World.frozen?,hrow]
   have Hw:=hid (Ha.out.trans (Hb2.out.mono (by omega)))
   obtain⟨vb,vn,vc,rfl⟩:∃vb vn vc,v=.slice vb vn vc:=by
    rcases ho.2 with ⟨rfl,_⟩ | ⟨g,cap,cur,rfl,_⟩
    · exact⟨_,_,_,rfl⟩
    · exact⟨_,_,_,rfl⟩
   have Ho1:=hid (y9 (b:=w.heap.size+2) ho (by rw[Hs2.out];exact Nat.le_refl _));clear ho hb2 hrow hrw hb1 Ho;go_wp2;refine bodyPost_ret (v:=.tuple #[.agg #[.int .u64 r,.int .u64 ty,.slice vb vn vc],.bool true]) (by simp[results,Tryz.results218,go_sem,z0,z1,z2]) rfl ?_;have Hh:∀(a:Addr) (u:Value) (W:World),a.block=w.heap.size→∀k,w.heap.size+2≤k→(W.setCell a u).heap[k]?=W.heap[k]?:=fun a u W ha k hk=>Below.heap_setCell _ _ _ _ (by omega)
   refine⟨⟨_,rfl,y9 (qr Ho1.out (fun k hk1 _=>?_)) (by omega)⟩,((Hw.out.setCell (Nat.le_refl _) _).setCell (Nat.le_refl _) _).setCell (Nat.le_refl _) _⟩;rw[Hh _ _ _ rfl k hk1,Hh _ _ _ rfl k hk1,Hh _ _ _ rfl k hk1]
theorem z9e {l:List Nat} {k:Nat} (h:k<l.length):nth l k∈l:=by
 unfold nth;rw[List.getD_eq_getElem?_getD,List.getElem?_eq_getElem h];exact List.getElem_mem h
theorem z9f {l:List Nat} (h:Asc l) {i j:Nat} (hij:i<j) (hj:j<l.length):nth l i<nth l j:=zco h hij hj
theorem zxl {L:List Nat} {x k:Nat} (hA:Asc L) (hk:k≤L.length) (h1:∀j,j<k→nth L j<x) (h2:k<L.length→¬nth L k<x):
 jo L x=if k<L.length∧nth L k=x then L else L.take k++x :: L.drop k:=by
 split
 · rename_i h;refine zgb (zfs hA) hA fun y=>?_
   rw[zep];constructor
   · rintro(h' | rfl)
     · exact h'
     · rw[←h.2];exact z9e h.1
   · exact .inl
 · rename_i h
   obtain⟨a1,a2⟩:=zl4 hA (x:=x) (k:=k) hk (fun h0=>h1 _ (by omega)) (fun t ht hl=>by
    have hkl:k<L.length:=by omega
    have h3:=h2 hkl;have h4:nth L k≠x:=fun e=>h ⟨hkl,e⟩
    by_cases e:t=k
    · rw[e];omega
    · have:=z9f hA (i:=k) (j:=t) (by omega) hl;omega)
   refine zgb (zfs hA) a1 fun y=>?_
   rw[zep,a2 y]
theorem z9g {L:List Nat} {x k:Nat} (h:∀j,j<k→nth L j<x) (hk:nth L k<x):∀j,j<k+1→nth L j<x:=fun j hj=>by
 by_cases e:j=k
 · rw[e];exact hk
 · exact h j (by omega)
theorem z9h {L:List Nat} {x:Nat} (hA:Asc L):(jo L x).length≤L.length+1:=by
 have:=zcz (zfs (x:=x) hA) (M:=x :: L) (fun y hy=>by
  rcases zep.1 hy with h | h
  · exact List.mem_cons_of_mem _ h
  · rw[h];exact List.mem_cons_self)
 simpa using this
set_option maxRecDepth 20000 in
theorem zxm (B n x:Nat) (v:Value) (L:List Nat) (w:World) (ho:w.ownsRow B 52 1 v n (zi L)) (hB:B≤w.heap.size) (hA:Asc L) (hl:∀y∈L,y<18446744073709551616) (hn:n≤100000):
 Calls Tryz.prog 225 #[v,.int .u64 x] w fun e w'=>(∃y,e=.returned y∧w'.ownsRow B 52 1 y (jo L x).length (zi (jo L x)))∧Below w.heap.size w w':=by
 have hlen:L.length=n:=by have:=ho.1;rw[zd3] at this;omega
 have Ho:=hid ho;have HA:=hid hA;have Hl:=hid hlen;obtain⟨a,cap,rfl,hU⟩:=zbf ho hl;have HU:=hid hU;clear ho hA hl hU hlen;have hcm:n≤cap:=HU.out.room;go_enter Tryz.func225,Tryz.ntmps225;go_wp2;go_loopw [5] (fun i wr=>∃k:Nat,k≤n∧i=.int .i64 k∧Below w.heap.size w wr∧Hid (∀j,j<k→nth L j<x)) (fun i _=>n - (intOf i).toNat)
 case atStart=>exact⟨0,by omega,rfl,Below.refl _ _,fun j h=>by omega⟩
 case round=>
  obtain⟨k,hk,rfl,hb,ht⟩:=hrel;have Hb:=hid hb;clear hb;have h0:(0:Int)≤k:=by omega
  have Hr:=hid (zm Ho.out Hb.out);by_cases hkn:k<n
  · obtain⟨g,rfl,hgb,hgc,hcR⟩:=zxe Hr.out (by omega);have q1:=hcR k hkn;have Hq:=hid (fun w' (h:Below wr.heap.size wr w')=>(h.cell (p:=⟨g,k,none⟩) (ze q1)).trans q1);clear hcR;have h01:(k:Int)<(n:Int):=by omega
    have Hins:=hid (fun h2=>zxl (x:=x) HA.out (k:=k) (by rw[Hl.out];exact hk) ht.out h2);rw[Hl.out] at Hins;have Hst:=hid (fun h=>z9g (x:=x) (L:=L) ht.out h);generalize nth L k=z at*;by_cases hzx:z<x
    · have hd:decide ((z:Int)<(x:Int))=true:=by rw[decide_eq_true_iff];omega
      have hdn:decide (z<x)=true:=by rw[decide_eq_true_iff];exact hzx
      have Hs:=hid (Hst.out hzx);clear hzx;go_wp2;go_roundw
      case rel=>exact⟨k+1,by omega,by go_num,Hb.out,Hs.out⟩
      case measure=>simp[intOf];omega
    · have hd:decide ((z:Int)<(x:Int))=false:=by rw[decide_eq_false_iff_not];omega
      have hdn:decide (z<x)=false:=by rw[decide_eq_false_iff_not];exact hzx
      have Hi:=hid (Hins.out fun _=>hzx);clear hzx;by_cases hz2:z=x
      · subst hz2;rw[if_pos ⟨hkn,rfl⟩] at Hi;go_wp2;go_ret;exact⟨⟨_,rfl,by rw[Hi.out,Hl.out];exact Hr.out⟩,Hb.out⟩
      · have hne:((z:Int) == (x:Int))=false:=by rw[beq_eq_false_iff_ne];omega
        rw[if_neg (fun h=>hz2 h.2)] at Hi;clear hz2
        have Hhd:=hid (show ∀w',Below wr.heap.size wr w'→Rd w' 1 (some ⟨g,0,none⟩) k (zi (L.take k)) from fun w' h=>by
         have:=zdh (zm Hr.out h) k hk;rw[Nat.mul_one,zpa] at this;exact Rd.own this)
        have Htl:=hid (show ∀w',Below wr.heap.size wr w'→Rd w' 1 (if cap=k then some ⟨g,0,none⟩ else some ⟨g,k,none⟩) (n - k) (zi (L.drop k)) from fun w' h=>by
         have h1:=(zxd Hr.out k hk).below h;split
         · exact⟨h1.1,fun h0=>by omega⟩
         · exact h1)
        have hkc:k≤cap:=by omega
        have hzr:w.heap.size≤wr.heap.size:=Hb.out.size;go_wp2_with fail;have q2:=Hq.out;clear q1
        go_region_held3 (fun w'=>Below wr.heap.size wr w') (first | assumption | exact(Below.refl _ _).drew | exact Below.alloc (by assumption) (Below.size (by assumption)) _) (first
         | (refine zbd rfl (.tmp 33) (.tmp 36) rfl rfl wr.heap.size _ 0 [] rfl (zcq (by first | exact zg _ _ _ (by simp) | exact yy _ _ _ _ (zg _ _ _ (by simp))) (by simp <;> omega)) _ k _ (L.take k) rfl (Hhd.out _ (by assumption)) (by omega) (by simp <;> omega) ?_
            intro v1 w1 ho1 hg1
            have hS1:Below wr.heap.size wr w1:=by
             refine Below.grown (B:=wr.heap.size) (by assumption) hg1 (by simp <;> omega) ?_;intro j hj;simp[Value.ownBlock,Act.eval] at hj
             omega)
         | (refine zbd rfl (.tmp 37) (.tmp 39) rfl rfl wr.heap.size _ _ _ rfl (by first | exact ho1 | exact ho1.alloc _) _ 1 _ [x] rfl (by first | exact yg (zg _ _ _ (by simp)) rfl rfl | exact zck hg1 (yg (by first | exact zg _ _ _ (by simp) | exact yy _ _ _ _ (zg _ _ _ (by simp))) rfl rfl) (by simp[Value.ownBlock,Act.eval]) (by simp <;> omega)) (by omega) (by have:=hS1.size;simp <;> omega) ?_
            intro v2 w2 ho2 hg2
            have hS2:Below wr.heap.size wr w2:=by
             refine Below.grown (B:=wr.heap.size) (by assumption) hg2 ?_ (fun j hj=>(ho1.lt j hj).1);have:=hS1.size
             simp <;> omega)
         | (refine zbd rfl (.tmp 40) (.tmp 43) rfl rfl wr.heap.size _ _ _ rfl ho2 _ (n - k) _ (L.drop k) rfl (Htl.out _ (by assumption)) (by omega) (by have:=hS2.size;simp <;> omega) ?_
            intro v3 w3 ho3 hg3
            have hS3:Below wr.heap.size wr w3:=by
             refine Below.grown (B:=wr.heap.size) (by assumption) hg3 ?_ (fun j hj=>(ho2.lt j hj).1);have:=hS2.size;simp <;> omega))
        all_goals
         go_wp2;go_ret;refine⟨⟨_,rfl,?_⟩,Hb.out.trans (hS3.mono hzr)⟩;have e:(jo L x).length=0+k+1+(n - k):=by rw[Hi.out];simp[Hl.out];omega
         rw[e,Hi.out];have:=y9 (b:=B) ho3 (by omega);simpa using this
  · obtain rfl:k=n:=by omega
    have Hi:=hid (zxl (x:=x) HA.out (k:=k) (by rw[Hl.out];exact hk) ht.out (fun h=>by rw[Hl.out] at h;omega));rw[if_neg (fun h=>by rw[Hl.out] at h;omega)] at Hi;rcases zpc Hr.out with ⟨rfl,rfl,rfl⟩ | ⟨g,rfl,-,-,hgl⟩
    · rw[show ((0:Nat):Int)=0 from rfl];have hzr:w.heap.size≤wr.heap.size:=Hb.out.size;go_wp2_with fail
      go_region_held3 (fun w'=>Below wr.heap.size wr w') (first | assumption | exact(Below.refl _ _).drew | exact Below.alloc (by assumption) (Below.size (by assumption)) _) (first
       | (refine zbd rfl (.tmp 33) (.tmp 36) rfl rfl wr.heap.size _ 0 [] rfl (zcq (by first | exact zg _ _ _ (by simp) | exact yy _ _ _ _ (zg _ _ _ (by simp))) (by simp <;> omega)) _ 0 _ [] rfl (zfc _ _) (by omega) (by simp <;> omega) ?_
          intro v1 w1 ho1 hg1
          have hS1:Below wr.heap.size wr w1:=by
           refine Below.grown (B:=wr.heap.size) (by assumption) hg1 (by simp <;> omega) ?_;intro j hj;simp[Value.ownBlock,Act.eval] at hj
           omega)
       | (refine zbd rfl (.tmp 37) (.tmp 39) rfl rfl wr.heap.size _ _ _ rfl (by first | exact ho1 | exact ho1.alloc _) _ 1 _ [x] rfl (by first | exact yg (zg _ _ _ (by simp)) rfl rfl | exact zck hg1 (yg (by first | exact zg _ _ _ (by simp) | exact yy _ _ _ _ (zg _ _ _ (by simp))) rfl rfl) (by simp[Value.ownBlock,Act.eval]) (by simp <;> omega)) (by omega) (by have:=hS1.size;simp <;> omega) ?_
          intro v2 w2 ho2 hg2
          have hS2:Below wr.heap.size wr w2:=by
           refine Below.grown (B:=wr.heap.size) (by assumption) hg2 ?_ (fun j hj=>(ho1.lt j hj).1);have:=hS1.size
           simp <;> omega)
       | (refine zbd rfl (.tmp 40) (.tmp 43) rfl rfl wr.heap.size _ _ _ rfl ho2 _ 0 _ [] rfl (zfc _ _) (by omega) (by have:=hS2.size;simp <;> omega) ?_
          intro v3 w3 ho3 hg3
          have hS3:Below wr.heap.size wr w3:=by
           refine Below.grown (B:=wr.heap.size) (by assumption) hg3 ?_ (fun j hj=>(ho2.lt j hj).1);have:=hS2.size;simp <;> omega))
      all_goals
       go_wp2;go_ret;refine⟨⟨_,rfl,?_⟩,Hb.out.trans (hS3.mono hzr)⟩;have e:(jo L x).length=0+0+1+0:=by rw[Hi.out];simp[List.length_eq_zero_iff.1 Hl.out]
       rw[e,Hi.out];have:=y9 (b:=B) ho3 (by omega);rw[List.length_eq_zero_iff.1 Hl.out];simpa using this
    · skip
      have Hhd:=hid (show ∀w',Below wr.heap.size wr w'→Rd w' 1 (some ⟨g,0,none⟩) k (zi (L.take k)) from fun w' h=>by
       have:=zdh (zm Hr.out h) k hk;rw[Nat.mul_one,zpa] at this;exact Rd.own this)
      have Htl:=hid (show ∀w',Below wr.heap.size wr w'→Rd w' 1 (if cap=k then some ⟨g,0,none⟩ else some ⟨g,k,none⟩) 0 (zi []) from fun w' h=>⟨rfl,fun h0=>by omega⟩);have hkc:k≤cap:=by omega
      have hzr:w.heap.size≤wr.heap.size:=Hb.out.size;go_wp2_with fail
      go_region_held3 (fun w'=>Below wr.heap.size wr w') (first | assumption | exact(Below.refl _ _).drew | exact Below.alloc (by assumption) (Below.size (by assumption)) _) (first
       | (refine zbd rfl (.tmp 33) (.tmp 36) rfl rfl wr.heap.size _ 0 [] rfl (zcq (by first | exact zg _ _ _ (by simp) | exact yy _ _ _ _ (zg _ _ _ (by simp))) (by simp <;> omega)) _ k _ (L.take k) rfl (Hhd.out _ (by assumption)) (by omega) (by simp <;> omega) ?_
          intro v1 w1 ho1 hg1
          have hS1:Below wr.heap.size wr w1:=by
           refine Below.grown (B:=wr.heap.size) (by assumption) hg1 (by simp <;> omega) ?_;intro j hj;simp[Value.ownBlock,Act.eval] at hj
           omega)
       | (refine zbd rfl (.tmp 37) (.tmp 39) rfl rfl wr.heap.size _ _ _ rfl (by first | exact ho1 | exact ho1.alloc _) _ 1 _ [x] rfl (by first | exact yg (zg _ _ _ (by simp)) rfl rfl | exact zck hg1 (yg (by first | exact zg _ _ _ (by simp) | exact yy _ _ _ _ (zg _ _ _ (by simp))) rfl rfl) (by simp[Value.ownBlock,Act.eval]) (by simp <;> omega)) (by omega) (by have:=hS1.size;simp <;> omega) ?_
          intro v2 w2 ho2 hg2
          have hS2:Below wr.heap.size wr w2:=by
           refine Below.grown (B:=wr.heap.size) (by assumption) hg2 ?_ (fun j hj=>(ho1.lt j hj).1);have:=hS1.size
           simp <;> omega)
       | (refine zbd rfl (.tmp 40) (.tmp 43) rfl rfl wr.heap.size _ _ _ rfl ho2 _ 0 _ [] rfl (Htl.out _ (by assumption)) (by omega) (by have:=hS2.size;simp <;> omega) ?_
          intro v3 w3 ho3 hg3
          have hS3:Below wr.heap.size wr w3:=by
           refine Below.grown (B:=wr.heap.size) (by assumption) hg3 ?_ (fun j hj=>(ho2.lt j hj).1);have:=hS2.size;simp <;> omega))
      all_goals go_wp2
      all_goals go_ret
      all_goals
       refine⟨⟨_,rfl,?_⟩,Hb.out.trans (hS3.mono hzr)⟩;have hdr:L.drop k=[]:=List.drop_eq_nil_of_le (by rw[Hl.out];exact Nat.le_refl _);have e:(jo L x).length=0+k+1+0:=by rw[Hi.out,hdr];simp[Hl.out]
       rw[e,Hi.out,hdr];have:=y9 (b:=B) ho3 (by omega);simpa using this
set_option maxRecDepth 20000 in
theorem z9i (e:Ent) (a:Option Addr) (n c:Nat) (w:World) (hI:Ivs w a n c e.2.2) (hm:e.2.1<18446744073709551616) (hn:2*e.2.2.length+5≤100000):
 Calls Tryz.prog 167 #[ky e (.slice a n c)] w fun x w'=>zc0 w.heap.size (zbo e) x w'∧Below w.heap.size w w':=by
 obtain⟨r,m,hs⟩:=e;simp only at hI hm hn;have HI:=hid hI;have hKl:=hid (z83 (e:=(r,m,hs)) hI.lt hm);have hKn:=hid (show 2*(qz (r,m,hs)).length+3≤100000 from by have:=znc (e:=(r,m,hs)) hI.lt hm;simp only at this;omega);have hal:Below w.heap.size w ((w.alloc (.cells #[.int .u64 r,.int .u64 m,.slice a n c] 101)).alloc (.cells #[.int .u64 0,.int .u64 0,.slice none 0 0] 101)):=((Below.refl _ _).alloc (Nat.le_refl _) _).alloc (by simp) _;have hq:=zcc w (.int .u64 r) (.int .u64 m) (.slice a n c) 101 ((w.alloc (.cells #[.int .u64 r,.int .u64 m,.slice a n c] 101)).alloc (.cells #[.int .u64 0,.int .u64 0,.slice none 0 0] 101)) ((Below.refl _ _).alloc (Nat.le_refl _) _);have hrow:((w.alloc (.cells #[.int .u64 r,.int .u64 m,.slice a n c] 101)).alloc (.cells #[.int .u64 0,.int .u64 0,.slice none 0 0] 101)).heap[w.heap.size+1]?=some (.cells #[.int .u64 0,.int .u64 0,.slice none 0 0] 101):=z7 (by simp);have hsz:((w.alloc (.cells #[.int .u64 r,.int .u64 m,.slice a n c] 101)).alloc (.cells #[.int .u64 0,.int .u64 0,.slice none 0 0] 101)).heap.size=w.heap.size+2:=by simp
 have Hcan:=hid (show zbo (r,m,hs)=ofE r (qz (r,m,hs)) from rfl);go_enter Tryz.func167,Tryz.ntmps167;go_wp2_with fail;generalize (w.alloc (.cells #[.int .u64 r,.int .u64 m,.slice a n c] 101)).alloc (.cells #[.int .u64 0,.int .u64 0,.slice none 0 0] 101)=W at*;obtain⟨q0,q1,q2⟩:=hq;have HA:=hid hal;have Hrow:=hid hrow;have Hsz:=hid hsz;have Hm:=hid hm;have Hn:=hid (show 2*hs.length+3≤100000 from by omega);have hK:=hid (fun w' (h:Below W.heap.size W w')=>zxj (r,m,hs) a n c w' (HI.out.below (HA.out.trans (h.mono HA.out.size))) Hm.out Hn.out);have hO:=hid (fun a n c w' (h:Ivs w' a n c (qz (r,m,hs)))=>zxk r a n c (qz (r,m,hs)) w' h hKn.out)
 have Hres:∀w',Below W.heap.size W w'→w'.cell? ⟨w.heap.size+1,0,none⟩=some (.int .u64 0)∧w'.cell? ⟨w.heap.size+1,1,none⟩=some (.int .u64 0)∧w'.cell? ⟨w.heap.size+1,2,none⟩=some (.slice none 0 0)∧
  w'.frozen? ⟨w.heap.size+1,0,none⟩=false∧w'.frozen? ⟨w.heap.size+1,1,none⟩=false∧w'.frozen? ⟨w.heap.size+1,2,none⟩=false:=fun w' h=>by
  have hr:w'.heap[w.heap.size+1]?=some (.cells #[.int .u64 0,.int .u64 0,.slice none 0 0] 101):=(h.block _ (by rw[Hsz.out];omega)).trans Hrow.out;exact⟨zu (i:=0) hr rfl,zu (i:=1) hr rfl,zu (i:=2) hr rfl,by simp[World.frozen?,hr],by simp[World.frozen?,hr],by simp[World.frozen?,hr]⟩
 have HR:=hid Hres;have Hq:=hid (fun w' (h:Below W.heap.size W w')=>And.intro ((h.cell (p:=⟨w.heap.size,0,none⟩) (ze q0)).trans q0) (And.intro ((h.cell (p:=⟨w.heap.size,1,none⟩) (ze q1)).trans q1) ((h.cell (p:=⟨w.heap.size,2,none⟩) (ze q2)).trans q2)));clear hal hrow hsz hI hm hn Hres;generalize hg:qz (r,m,hs)=L at*
 cases hc:ofE r L with
 | none=>
  have Hnone:=hid (Hcan.out.trans hc);rw[hc] at hO;clear hc
  go_region_with (first
   | (go_at_call 219;refine(hK.out _ (by first | exact Below.refl _ _ | exact(Below.refl _ _).drew)).mono ?_
      rintro e w1 ⟨⟨v,rfl,ho⟩,hb1⟩;have Hb1:=hid (show Below W.heap.size W w1 from⟨hb1.os,hb1.tape,hb1.output,hb1.size,hb1.block⟩);obtain⟨av,cv,rfl,hIv⟩:=zah ho hKl.out;have HIv:=hid hIv;clear hb1 ho hIv;have qq:=Hq.out _ Hb1.out;have q3:=qq.1;have q4:=qq.2.1;have q5:=qq.2.2
      clear qq)
   | (go_at_call 218;refine(hO.out _ _ _ _ (by first | exact HIv.out | exact HIv.out.below (Below.refl _ _).drew)).mono ?_
      rintro e w2 ⟨hof,hb2⟩;simp only[zc0] at hof;subst hof;have Hb2:=hid (show Below w1.heap.size w1 w2 from⟨hb2.os,hb2.tape,hb2.output,hb2.size,hb2.block⟩);have Hb3:=hid (Hb1.out.trans (Hb2.out.mono Hb1.out.size));clear hb2;have qq:=HR.out _ Hb3.out;have z0:=qq.1;have z1:=qq.2.1;have z2:=qq.2.2.1;have z3:=qq.2.2.2.1;have z4:=qq.2.2.2.2.1;have z5:=qq.2.2.2.2.2;clear qq))
  all_goals go_wp2
  all_goals refine bodyPost_ret (v:=.tuple #[ky (0,0,[]) (.slice none 0 0),.bool false]) (by simp[results,Tryz.results167,go_sem,z0,z1,z2]) rfl ?_
  all_goals
   rw[Hnone.out];refine⟨rfl,?_⟩;have hz:=HA.out.trans (Hb3.out.mono HA.out.size)
   first
    | exact((hz.setCell (by simp) _).setCell (by simp) _).setCell (by simp) _
    | exact(((hz.setCell (by simp) _).setCell (by simp) _).setCell (by simp) _).drew
    | (refine Below.setCell (Below.setCell (Below.setCell ?_ (by simp) _) (by simp) _) (by simp) _;exact hz.drew)
    | (trace_state;fail)
 | some f=>
  have Hsome:=hid (Hcan.out.trans hc);rw[hc] at hO;clear hc;obtain⟨fr,fm,fh⟩:=f
  go_region_with (first
   | (go_at_call 219;refine(hK.out _ (by first | exact Below.refl _ _ | exact(Below.refl _ _).drew)).mono ?_
      rintro e w1 ⟨⟨v,rfl,ho⟩,hb1⟩;have Hb1:=hid (show Below W.heap.size W w1 from⟨hb1.os,hb1.tape,hb1.output,hb1.size,hb1.block⟩);obtain⟨av,cv,rfl,hIv⟩:=zah ho hKl.out;have HIv:=hid hIv;clear hb1 ho hIv;have qq:=Hq.out _ Hb1.out;have q3:=qq.1;have q4:=qq.2.1;have q5:=qq.2.2
      clear qq)
   | (go_at_call 218;refine(hO.out _ _ _ _ (by first | exact HIv.out | exact HIv.out.below (Below.refl _ _).drew)).mono ?_
      rintro e w2 ⟨hof,hb2⟩;simp only[zc0] at hof;obtain⟨s,rfl,ho2⟩:=hof;obtain⟨sa,sc,rfl⟩:=ks ho2;have Ho2:=hid ho2;have Hb2:=hid (show Below w1.heap.size w1 w2 from⟨hb2.os,hb2.tape,hb2.output,hb2.size,hb2.block⟩);have Hb3:=hid (Hb1.out.trans (Hb2.out.mono Hb1.out.size));clear hb2 ho2;have qq:=HR.out _ Hb3.out;have z0:=qq.1;have z1:=qq.2.1;have z2:=qq.2.2.1;have z3:=qq.2.2.2.1;have z4:=qq.2.2.2.2.1;have z5:=qq.2.2.2.2.2;clear qq))
  all_goals go_wp2
  all_goals refine bodyPost_ret (v:=.tuple #[.agg #[.int .u64 fr,.int .u64 fm,.slice sa fh.length sc],.bool true]) (by simp[results,Tryz.results167,go_sem,z0,z1,z2]) rfl ?_
  all_goals
   rw[Hsome.out];have hz:=HA.out.trans (Hb3.out.mono HA.out.size);have Hh:∀(a:Addr) (u:Value) (V:World),a.block=w.heap.size+1→∀k,W.heap.size≤k→(V.setCell a u).heap[k]?=V.heap[k]?:=fun a u V ha k hk=>Below.heap_setCell _ _ _ _ (by have:=Hsz.out;omega)
   have hw1:=Hb1.out.size;refine⟨⟨_,rfl,y9 (base:=W.heap.size) (qr (y9 Ho2.out (by first | exact Hb1.out.size | (simp;exact Hb1.out.size))) (fun k hk1 _=>?_)) (by have:=Hsz.out;omega)⟩,?_⟩
   · first
      | rw[Hh _ _ _ rfl k hk1,Hh _ _ _ rfl k hk1,Hh _ _ _ rfl k hk1]
      | (show (World.setCell _ _ _).heap[k]?=_;rw[Hh _ _ _ rfl k hk1,Hh _ _ _ rfl k hk1,Hh _ _ _ rfl k hk1])
      | (trace_state;fail)
   · first
      | exact((hz.setCell (by simp) _).setCell (by simp) _).setCell (by simp) _
      | exact(((hz.setCell (by simp) _).setCell (by simp) _).setCell (by simp) _).drew
      | (refine Below.setCell (Below.setCell (Below.setCell ?_ (by simp) _) (by simp) _) (by simp) _;exact hz.drew)
      | (trace_state;fail)
end
end Go.Proofs.YtdnjfnofjaoajaaGreatDoor
