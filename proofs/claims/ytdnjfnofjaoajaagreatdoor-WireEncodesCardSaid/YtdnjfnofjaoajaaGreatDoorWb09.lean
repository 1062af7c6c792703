/- Walks and laws, joined: Wb09. -/
import Derived.Test.YtdnjfnofjaoajaaGreatDoorWb08
set_option linter.unusedVariables false
set_option maxHeartbeats 16000000
namespace Go.Proofs.YtdnjfnofjaoajaaGreatDoor
open Lib (hid)
section
open Go.RowKit
theorem zr5 (x:Nat) (hx:x<18446744073709551615) (w:World):Calls Tryz.prog 241 #[.int .u64 x] w fun e w'=>e=.returned (.tuple #[.int .u64 ((x+1:Nat):Int),.bool true])∧Below w.heap.size w w':=by
 have hw:IntKind.u64.wrap ((x:Int)+1)=(x:Int)+1:=by rw[IntKind.wrap_u64];omega
 have hne:((x:Int)+1 != 0)=true:=by rw[bne_iff_ne];omega
 go_enter Tryz.func241,Tryz.ntmps241;go_wp2;all_goals go_ret2
 all_goals exact⟨by simp,by first | exact Below.refl _ _ | exact ye (Below.refl _ _) _⟩
theorem zr6 (w:World):Calls Tryz.prog 241 #[.int .u64 18446744073709551615] w fun e w'=>e=.returned (.tuple #[.int .u64 0,.bool false])∧Below w.heap.size w w':=by
 go_enter Tryz.func241,Tryz.ntmps241;go_wp2;all_goals go_ret2
 all_goals exact⟨by simp[IntKind.wrap_u64],by first | exact Below.refl _ _ | exact ye (Below.refl _ _) _⟩
def zbh (o:Option Nat):Value:=.tuple #[.int .u64 ((o.getD 0:Nat):Int),.bool o.isSome]
def zh7 (x:Nat):Option Nat:=if x=0 then none else some (x - 1)
theorem zr7 (x:Nat) (hx:x<18446744073709551616) (w:World):Calls Tryz.prog 240 #[.int .u64 x] w fun e w'=>e=.returned (zbh (zh7 x))∧Below w.heap.size w w':=by
 by_cases h:x=0
 · subst h;go_enter Tryz.func240,Tryz.ntmps240;go_wp2;all_goals go_ret2
   all_goals exact⟨by simp[zbh,zh7],by first | exact Below.refl _ _ | exact ye (Below.refl _ _) _⟩
 · have hw:IntKind.u64.wrap ((x:Int) - 1)=((x - 1:Nat):Int):=by rw[IntKind.wrap_u64];omega
   have hne:((x:Int) == 0)=false:=by rw[beq_eq_false_iff_ne];omega
   have e:zh7 x=some (x - 1):=if_neg h;rw[e];go_enter Tryz.func240,Tryz.ntmps240;go_wp2;all_goals go_ret2
   all_goals exact⟨by simp[zbh],by first | exact Below.refl _ _ | exact ye (Below.refl _ _) _⟩
set_option maxRecDepth 20000 in
theorem zr8 (a:Option Addr) (n cap x:Nat) (l:List Iv) (w:World) (hI:Ivs w a n cap l) (hx:x<18446744073709551616):
 Calls Tryz.prog 260 #[.slice a n cap,.int .u64 x] w fun e w'=>e=.returned (zbh (jp l x))∧Below w.heap.size w w':=by
 have HI:=hid hI;have Hl:=hid hI.len;have hm:n≤9223372036854775807:=Nat.le_trans hI.room hI.most;clear hI;go_enter Tryz.func260,Tryz.ntmps260;go_wp2;go_loopw [12] (fun i wr=>∃k:Nat,k≤n∧i=.int .i64 k∧Below w.heap.size w wr∧Hid (jp l x=jp (l.drop k) x)) (fun i _=>n - (intOf i).toNat)
 case atStart=>exact⟨0,by omega,rfl,Below.refl _ _,rfl⟩
 case round=>
  obtain⟨k,hk,rfl,hb,ht⟩:=hrel;by_cases hkn:k<n
  · obtain⟨cb,co,rfl,hcell⟩:=HI.out.cells (by omega);obtain⟨c1,c2⟩:=hcell k hkn;clear hcell;have hkl:k<l.length:=by rw[Hl.out];exact hkn
    have Hd:=hid (show l.drop k=zb l k :: l.drop (k+1) from by rw[qf hkl];exact List.drop_eq_getElem_cons hkl);have hlt:=HI.out.lt (zb l k) (zaa hkl);have c1:=(hb.cell (p:=⟨cb,co+k*2,none⟩) (ze c1)).trans c1;have c2:=(hb.cell (p:=⟨cb,co+k*2+1,none⟩) (ze c2)).trans c2;have Hb:=hid hb;have Hba:=hid (fun C:Obj=>hb.alloc hb.size C);clear hb hkl;generalize zb l k=s at*;obtain⟨p,q⟩:=s;simp only at c1 c2 hlt;have hkm:(k:Int)<(n:Int):=by omega
    have hk0:(0:Int)≤k:=by omega
    by_cases h1:x<p
    · have hd1:decide ((x:Int)<(p:Int))=true:=by rw[decide_eq_true_iff];omega
      have hd1':decide (x<p)=true:=by rw[decide_eq_true_iff];omega
      have Hr:=hid (show jp l x=some p from by rw[ht.out,Hd.out,jp,if_pos h1]);clear h1;go_wp2;go_ret2;exact⟨by rw[Hr.out];rfl,Hba.out _⟩
    · have hd1:decide ((x:Int)<(p:Int))=false:=by rw[decide_eq_false_iff_not];omega
      have hd1':decide (x<p)=false:=by rw[decide_eq_false_iff_not];omega
      by_cases h2:q<18446744073709551615
      · have hc:=hid (fun w=>zr5 q h2 w);by_cases h3:x<q+1
        · have hd2:decide ((x:Int)<(q:Int)+1)=true:=by rw[decide_eq_true_iff];omega
          have hd2':decide (x<q+1)=true:=by rw[decide_eq_true_iff];omega
          have Hr:=hid (show jp l x=some (q+1) from by rw[ht.out,Hd.out,jp,if_neg h1,if_pos ⟨h2,h3⟩]);clear h1 h2 h3;go_wp2_with fail;refine(hc.out _).mono ?_;rintro e w3 ⟨rfl,hb3⟩;have Hb3:=hid ((Hba.out _).trans (hb3.mono (Hba.out _).size));clear hb3;go_wp2;go_ret2;exact⟨by rw[Hr.out];rfl,Hb3.out⟩
        · have hd2:decide ((x:Int)<(q:Int)+1)=false:=by rw[decide_eq_false_iff_not];omega
          have hd2':decide (x<q+1)=false:=by rw[decide_eq_false_iff_not];omega
          have Hr:=hid (show jp l x=jp (l.drop (k+1)) x from by rw[ht.out,Hd.out,jp,if_neg h1,if_neg (fun h=>h3 h.2)]);clear h1 h2 h3;go_wp2_with fail;refine(hc.out _).mono ?_;rintro e w3 ⟨rfl,hb3⟩;have Hb3:=hid ((Hba.out _).trans (hb3.mono (Hba.out _).size));clear hb3;go_wp2;go_roundw
          case rel=>exact⟨k+1,by omega,by go_num,Hb3.out,Hr.out⟩
          case measure=>simp[intOf];omega
      · obtain rfl:q=18446744073709551615:=by omega
        have Hr:=hid (show jp l x=jp (l.drop (k+1)) x from by rw[ht.out,Hd.out,jp,if_neg h1,if_neg (fun h=>h2 h.1)]);clear h1 h2;go_wp2_with fail;refine(zr6 _).mono ?_;rintro e w3 ⟨rfl,hb3⟩;have Hb3:=hid ((Hba.out _).trans (hb3.mono (Hba.out _).size));clear hb3;go_wp2;go_roundw
        case rel=>exact⟨k+1,by omega,by go_num,Hb3.out,Hr.out⟩
        case measure=>simp[intOf];omega
  · obtain rfl:k=n:=by omega
    have Hr:=hid (show jp l x=none from by rw[ht.out,List.drop_eq_nil_of_le (by rw[Hl.out];omega),jp]);go_wp2;go_ret2;exact⟨by rw[Hr.out];rfl,hb⟩
end
section
open Go.RowKit Go.Shelf
def IvCell (w:World) (p:Addr) (l:List Iv):Prop:=∃x n c,w.cell? p=some (.slice x n c)∧Ivs w x n c l
def EnCell (w:World) (p:Addr) (v:Vec):Prop:=∃x n c,w.cell? p=some (.slice x n c)∧Ents w x n c v
theorem IvCell.below {w w':World} {p:Addr} {l:List Iv} (h:IvCell w p l) (hb:Below w.heap.size w w'):IvCell w' p l:=
 let ⟨x,n,c,h1,h2⟩:=h;⟨x,n,c,(hb.cell (ze h1)).trans h1,h2.below hb⟩
theorem EnCell.below {w w':World} {p:Addr} {v:Vec} (h:EnCell w p v) (hb:Below w.heap.size w w'):EnCell w' p v:=
 let ⟨x,n,c,h1,h2⟩:=h;⟨x,n,c,(hb.cell (ze h1)).trans h1,h2.below hb⟩
structure Frags (w:World) (a:Option Addr) (n cap:Nat) (k:Kno):Prop where
 len:k.length=n
 room:n≤cap
 most:cap≤9223372036854775807
 nilc:a=none→cap=0
 cells:0<n→∃b o,a=some ⟨b,o,none⟩∧∀i,i<n→IvCell w ⟨b,o+i*2,none⟩ (za k i).1∧EnCell w ⟨b,o+i*2+1,none⟩ (za k i).2
theorem Frags.below {w w':World} {a:Option Addr} {n cap:Nat} {k:Kno} (h:Frags w a n cap k) (hb:Below w.heap.size w w'):Frags w' a n cap k:=by
 refine⟨h.len,h.room,h.most,h.nilc,fun hn=>?_⟩;obtain⟨b,o,ha,hc⟩:=h.cells hn;exact⟨b,o,ha,fun i hi=>⟨(hc i hi).1.below hb,(hc i hi).2.below hb⟩⟩
theorem zkn (w:World):Frags w none 0 0 []:=⟨rfl,by omega,by omega,fun _=>rfl,fun h=>by omega⟩
theorem Frags.lt {w:World} {a:Option Addr} {n cap:Nat} {k:Kno} (h:Frags w a n cap k) {i:Nat} (hi:i<n):zq (za k i).1∧LtV (za k i).2:=by
 obtain⟨b,o,-,hc⟩:=h.cells (by omega);obtain⟨⟨_,_,_,_,h1⟩,⟨_,_,_,_,h2⟩⟩:=hc i hi;exact⟨h1.lt,h2.lt⟩
theorem Frags.all {w:World} {a:Option Addr} {n cap:Nat} {k:Kno} (h:Frags w a n cap k):∀f∈k,zq f.1∧LtV f.2:=by
 intro f hf;obtain⟨i,hi,rfl⟩:=List.getElem_of_mem hf;have:=h.lt (i:=i) (by rw[←h.len];exact hi);rwa [ym hi] at this
structure EntsT (w:World) (base:Nat) (a:Option Addr) (n c:Nat) (v:Vec):Prop where
 len:v.length=n
 lt:LtV v
 room:n≤c
 most:c≤9223372036854775807
 nilc:a=none→c=0
 row:0<n→∀p,a=some p→zex w base 101 p.block
 cells:0<n→∃b o,a=some ⟨b,o,none⟩∧∀i,i<n→w.cell? ⟨b,o+i*3,none⟩=some (.int .u64 (((zc v i).1:Nat):Int))∧w.cell? ⟨b,o+i*3+1,none⟩=some (.int .u64 (((zc v i).2.1:Nat):Int))∧
  ∃x k c,w.cell? ⟨b,o+i*3+2,none⟩=some (.slice x k c)∧IvsT w base x k c (zc v i).2.2
theorem EntsT.ents {w:World} {base:Nat} {a:Option Addr} {n c:Nat} {v:Vec} (h:EntsT w base a n c v):Ents w a n c v:=by
 refine⟨h.len,h.lt,h.room,h.most,h.nilc,fun hn=>?_⟩;obtain⟨b,o,ha,hc⟩:=h.cells hn;refine⟨b,o,ha,fun i hi=>?_⟩;obtain⟨h1,h2,x,k,d,h3,h4⟩:=hc i hi;exact⟨h1,h2,x,k,d,h3,h4.ivs⟩
theorem z1d (w:World) (base:Nat):EntsT w base none 0 0 []:=⟨rfl,by simp,by omega,by omega,fun _=>rfl,fun h=>by omega,fun h=>by omega⟩
theorem EntsT.steady {w w':World} {base:Nat} {P:TypeId→Prop} {a:Option Addr} {n c:Nat} {v:Vec} (h:EntsT w base a n c v) (hs:Steady base P w w') (h1:P 99) (h2:P 101):EntsT w' base a n c v:=by
 refine⟨h.len,h.lt,h.room,h.most,h.nilc,fun hn p hp=>?_,fun hn=>?_⟩
 · obtain⟨b,o,ha,hc⟩:=h.cells hn;rw[ha] at hp;cases hp;exact(zka (h.row hn _ ha) (ze (hc 0 hn).1) hs h2).1
 · obtain⟨b,o,ha,hc⟩:=h.cells hn;obtain⟨-,hrow⟩:=zka (h.row hn _ ha) (ze (hc 0 hn).1) hs h2;refine⟨b,o,ha,fun i hi=>?_⟩;obtain⟨e1,e2,x,k,d,e3,e4⟩:=hc i hi
   exact⟨(World.cell?_of_block (a:=⟨b,o+i*3,none⟩) hrow).trans e1,(World.cell?_of_block (a:=⟨b,o+i*3+1,none⟩) hrow).trans e2,x,k,d,
    (World.cell?_of_block (a:=⟨b,o+i*3+2,none⟩) hrow).trans e3,e4.steady hs h1⟩
theorem zr9 {w:World} {base base':Nat} {T:TypeId} {b:Nat} (h:zex w base T b) (hb:base≤base'):zex w base' T b:=h.imp (fun h=>by omega) id
theorem IvsT.raise {w:World} {base base':Nat} {a:Option Addr} {n c:Nat} {l:List Iv} (h:IvsT w base a n c l) (hb:base≤base'):IvsT w base' a n c l:=⟨h.ivs,fun hn p hp=>zr9 (h.row hn p hp) hb⟩
theorem EntsT.raise {w:World} {base base':Nat} {a:Option Addr} {n c:Nat} {v:Vec} (h:EntsT w base a n c v) (hb:base≤base'):EntsT w base' a n c v:=by
 refine⟨h.len,h.lt,h.room,h.most,h.nilc,fun hn p hp=>zr9 (h.row hn p hp) hb,fun hn=>?_⟩;obtain⟨b,o,ha,hc⟩:=h.cells hn;refine⟨b,o,ha,fun i hi=>?_⟩;obtain⟨e1,e2,x,k,d,e3,e4⟩:=hc i hi;exact⟨e1,e2,x,k,d,e3,e4.raise hb⟩
theorem OwnV.entsT {w:World} {base base':Nat} {x:Value} {v:Vec} (h:OwnV w base x v) (hl:LtV v):∃a c,x=.slice a v.length c∧EntsT w base' a v.length c v:=by
 obtain⟨ss,ho,hs⟩:=h;have ho2:=ho;rcases ho.2 with ⟨rfl,h0⟩ | ⟨g,cap,cur,rfl,hg,hh,hnc,hcm,_⟩
 · rw[h0];have:v=[]:=List.length_eq_zero_iff.1 h0;subst this;exact⟨none,0,rfl,z1d w base'⟩
 · refine⟨_,_,rfl,rfl,hl,hnc,by unfold maxLen at hcm;omega,(by intro h;cases h),fun hn p hp=>?_,fun hn=>⟨g,0,rfl,fun i hi=>?_⟩⟩
   · cases hp;exact .inr ⟨_,_,hh⟩
   obtain⟨e1,e2,e3⟩:=zng hs.1 hi;obtain⟨a,n,c,h1,h2⟩:=hs.2 i hi;rw[h1] at e3;have c1:=ho2.cells (g:=g) rfl _ _ e1;have c2:=ho2.cells (g:=g) rfl _ _ e2;have c3:=ho2.cells (g:=g) rfl _ _ e3;rw[yp] at c1 c2 c3;exact⟨c1,by rw[Nat.add_assoc];exact c2,a,n,c,by rw[Nat.add_assoc];exact c3,h2.raise (Nat.zero_le _)⟩
def yt (ss:List (Value×Value)):List Value:=ss.flatMap fun p=>[p.1,p.2]
theorem zko (ss ts:List (Value×Value)):yt (ss++ts)=yt ss++yt ts:=by simp[yt]
theorem zh8:∀{ss:List (Value×Value)} {i:Nat} {p:Value×Value},ss[i]?=some p→(yt ss)[i*2]?=some p.1∧(yt ss)[i*2+1]?=some p.2
 | [],i,p,h=>by simp at h
 | s :: ss,0,p,h=>by simp at h;subst h;exact⟨rfl,rfl⟩
 | s :: ss,i+1,p,h=>by
   have:=zh8 (ss:=ss) (i:=i) (p:=p) (by simpa using h);have e1:yt (s :: ss)=s.1 :: s.2 :: yt ss:=rfl;rw[e1,show (i+1)*2=i*2+1+1 by omega,show i*2+1+1+1=(i*2+1)+1+1 by omega];simpa using this
def IvSl (w:World) (base:Nat) (x:Value) (l:List Iv):Prop:=∃a n c,x=.slice a n c∧IvsT w base a n c l
def EnSl (w:World) (base:Nat) (x:Value) (v:Vec):Prop:=∃a n c,x=.slice a n c∧EntsT w base a n c v
theorem IvSl.steady {w w':World} {base:Nat} {P:TypeId→Prop} {x:Value} {l:List Iv} (h:IvSl w base x l) (hs:Steady base P w w') (h1:P 99):IvSl w' base x l:=
 let ⟨a,n,c,e,h⟩:=h;⟨a,n,c,e,h.steady hs h1⟩
theorem EnSl.steady {w w':World} {base:Nat} {P:TypeId→Prop} {x:Value} {v:Vec} (h:EnSl w base x v) (hs:Steady base P w w') (h1:P 99) (h2:P 101):EnSl w' base x v:=
 let ⟨a,n,c,e,h⟩:=h;⟨a,n,c,e,h.steady hs h1 h2⟩
theorem IvSl.raise {w:World} {base base':Nat} {x:Value} {l:List Iv} (h:IvSl w base x l) (hb:base≤base'):IvSl w base' x l:=
 let ⟨a,n,c,e,h⟩:=h;⟨a,n,c,e,h.raise hb⟩
theorem EnSl.raise {w:World} {base base':Nat} {x:Value} {v:Vec} (h:EnSl w base x v) (hb:base≤base'):EnSl w base' x v:=
 let ⟨a,n,c,e,h⟩:=h;⟨a,n,c,e,h.raise hb⟩
def PartsT (w:World) (base:Nat) (k:Kno) (ss:List (Value×Value)):Prop:=ss.length=k.length∧∀i,i<k.length→∃p,ss[i]?=some p∧IvSl w base p.1 (za k i).1∧EnSl w base p.2 (za k i).2
theorem PartsT.steady {w w':World} {base:Nat} {P:TypeId→Prop} {k:Kno} {ss:List (Value×Value)} (h:PartsT w base k ss) (hs:Steady base P w w') (h1:P 99) (h2:P 101):PartsT w' base k ss:=
 ⟨h.1,fun i hi=>let ⟨p,e,h3,h4⟩:=h.2 i hi;⟨p,e,h3.steady hs h1,h4.steady hs h1 h2⟩⟩
theorem PartsT.raise {w:World} {base base':Nat} {k:Kno} {ss:List (Value×Value)} (h:PartsT w base k ss) (hb:base≤base'):PartsT w base' k ss:=
 ⟨h.1,fun i hi=>let ⟨p,e,h3,h4⟩:=h.2 i hi;⟨p,e,h3.raise hb,h4.raise hb⟩⟩
theorem zh9 (w:World) (base:Nat):PartsT w base [] []:=⟨rfl,fun i hi=>by simp at hi⟩
theorem z1e {k j:Kno} {i:Nat} (h:i<k.length):za (k++j) i=za k i:=by
 rw[ym (by rw[List.length_append];omega),ym h,List.getElem_append_left h]
theorem z1f {k j:Kno} {i:Nat} (h:i<j.length):za (k++j) (k.length+i)=za j i:=by
 rw[ym (by rw[List.length_append];omega),ym h,List.getElem_append_right (by omega)];simp
theorem PartsT.append {w:World} {base:Nat} {k j:Kno} {ss ts:List (Value×Value)} (h:PartsT w base k ss) (h':PartsT w base j ts):PartsT w base (k++j) (ss++ts):=by
 refine⟨by simp[h.1,h'.1],fun i hi=>?_⟩;by_cases hv:i<k.length
 · obtain⟨p,e,h1,h2⟩:=h.2 i hv;refine⟨p,by rw[List.getElem?_append_left (by rw[h.1];exact hv)];exact e,?_⟩;rw[z1e hv];exact⟨h1,h2⟩
 · obtain⟨d,rfl⟩:∃d,i=k.length+d:=⟨i - k.length,by omega⟩;have hd:d<j.length:=by rw[List.length_append] at hi;omega
   obtain⟨p,e,h1,h2⟩:=h'.2 d hd;refine⟨p,by rw[List.getElem?_append_right (by rw[h.1];omega),h.1,Nat.add_sub_cancel_left];exact e,?_⟩;rw[z1f hd];exact⟨h1,h2⟩
theorem zgm {w:World} {base:Nat} {f:Frg} {x y:Value} (h1:IvSl w base x f.1) (h2:EnSl w base y f.2):PartsT w base [f] [(x,y)]:=
 ⟨rfl,fun i hi=>by obtain rfl:i=0:=by simpa using hi
                   exact⟨(x,y),rfl,h1,h2⟩⟩
theorem PartsT.take {w:World} {base:Nat} {k:Kno} {ss:List (Value×Value)} (h:PartsT w base k ss) (n:Nat):PartsT w base (k.take n) (ss.take n):=by
 refine⟨by simp[h.1],fun i hi=>?_⟩;have hi2:i<k.length∧i<n:=by rw[List.length_take] at hi;omega
 obtain⟨p,e,h1⟩:=h.2 i hi2.1;refine⟨p,by rw[List.getElem?_take,if_pos hi2.2];exact e,?_⟩;have:za (k.take n) i=za k i:=by rw[ym hi,ym hi2.1,List.getElem_take]
 rw[this];exact h1
theorem PartsT.drop {w:World} {base:Nat} {k:Kno} {ss:List (Value×Value)} (h:PartsT w base k ss) (n:Nat):PartsT w base (k.drop n) (ss.drop n):=by
 refine⟨by simp[h.1],fun i hi=>?_⟩;have hi2:n+i<k.length:=by rw[List.length_drop] at hi;omega
 obtain⟨p,e,h1⟩:=h.2 (n+i) hi2;refine⟨p,by rw[List.getElem?_drop];exact e,?_⟩;have:za (k.drop n) i=za k (n+i):=by rw[ym hi,ym hi2,List.getElem_drop]
 rw[this];exact h1
theorem PartsT.set {w:World} {base:Nat} {k:Kno} {ss:List (Value×Value)} {n:Nat} {f:Frg} {x y:Value} (h:PartsT w base k ss) (h1:IvSl w base x f.1) (h2:EnSl w base y f.2):PartsT w base (k.set n f) (ss.set n (x,y)):=by
 refine⟨by simp[h.1],fun i hi=>?_⟩;have hi':i<k.length:=by simpa using hi
 obtain⟨p,e,h3⟩:=h.2 i hi';by_cases e:n=i
 · subst e;refine⟨(x,y),by rw[List.getElem?_set_self (by rw[h.1];exact hi')],?_⟩;have:za (k.set n f) n=f:=by rw[ym hi];simp
   rw[this];exact⟨h1,h2⟩
 · refine⟨p,by rw[List.getElem?_set_ne e];assumption,?_⟩;have:za (k.set n f) i=za k i:=by rw[ym hi,ym hi',List.getElem_set_ne e]
   rw[this];exact h3
def OwnK (w:World) (base inner:Nat) (x:Value) (k:Kno):Prop:=∃ss,w.ownsRow base 85 2 x k.length (yt ss)∧PartsT w inner k ss
theorem zkp (w:World) (base inner:Nat):OwnK w base inner (.slice none 0 0) []:=⟨[],World.ownsRow_nil ..,zh9 w inner⟩
def zc6 (T:TypeId):Prop:=T=99∨T=101∨T=85
theorem zkq {w w':World} {base inner sz n:Nat} {P:TypeId→Prop} {T:TypeId} {x:Value} {xs:List Value} (ho:w.ownsRow base T sz x n xs) (hs:Steady inner P w w') (h1:P T):w'.ownsRow base T sz x n xs:=by
 refine⟨ho.1,?_⟩;rcases ho.2 with h' | ⟨g,cap,cur,hv,hg,hr,rest⟩
 · exact .inl h'
 · exact .inr ⟨g,cap,cur,hv,hg,(hs.row g (Array.getElem?_eq_some_iff.1 hr).1 (.inr ⟨_,_,_,h1,hr⟩)).trans hr,rest⟩
theorem OwnK.steady {w w':World} {base inner:Nat} {P:TypeId→Prop} {x:Value} {k:Kno} (h:OwnK w base inner x k) (hs:Steady inner P w w') (h1:P 99) (h2:P 101) (h3:P 85):OwnK w' base inner x k:=
 let ⟨ss,ho,hh⟩:=h;⟨ss,zkq ho hs h3,hh.steady hs h1 h2⟩
theorem OwnK.below {w w':World} {base inner:Nat} {x:Value} {k:Kno} (h:OwnK w base inner x k) (hb:Below w.heap.size w w'):OwnK w' base inner x k:=
 h.steady (P:=fun _=>True) (.of_below hb) trivial trivial trivial
theorem OwnK.lower {w:World} {base base' inner:Nat} {x:Value} {k:Kno} (h:OwnK w base inner x k) (hb:base'≤base):OwnK w base' inner x k:=
 let ⟨ss,ho,hh⟩:=h;⟨ss,y9 ho hb,hh⟩
theorem OwnK.raise {w:World} {base inner inner':Nat} {x:Value} {k:Kno} (h:OwnK w base inner x k) (hb:inner≤inner'):OwnK w base inner' x k:=
 let ⟨ss,ho,hh⟩:=h;⟨ss,ho,hh.raise hb⟩
theorem OwnK.frags {w:World} {base inner:Nat} {x:Value} {k:Kno} (h:OwnK w base inner x k):∃a c,x=.slice a k.length c∧Frags w a k.length c k:=by
 obtain⟨ss,ho,hs⟩:=h;have ho2:=ho;rcases ho.2 with ⟨rfl,h0⟩ | ⟨g,cap,cur,rfl,hg,hh,hnc,hcm,_⟩
 · rw[h0];have:k=[]:=List.length_eq_zero_iff.1 h0;subst this;exact⟨none,0,rfl,zkn w⟩
 · refine⟨_,_,rfl,rfl,hnc,by unfold maxLen at hcm;omega,(by intro h;cases h),fun hn=>⟨g,0,rfl,fun i hi=>?_⟩⟩;obtain⟨p,e,⟨a1,n1,m1,p1,i1⟩,⟨a2,n2,m2,p2,i2⟩⟩:=hs.2 i hi;obtain⟨e1,e2⟩:=zh8 e;rw[p1] at e1;rw[p2] at e2;have c1:=ho2.cells (g:=g) rfl _ _ e1;have c2:=ho2.cells (g:=g) rfl _ _ e2;rw[yp] at c1 c2;exact⟨⟨a1,n1,m1,c1,i1.ivs⟩,⟨a2,n2,m2,by rw[Nat.add_assoc];exact c2,i2.ents⟩⟩
theorem Tryz.info_frg:(Tryz.prog.info? 85).map (fun i=>(i.zero,i.size,i.bytes))=some (some (.agg #[.slice none 0 0,.slice none 0 0]),2,48):=by kernel_rfl
theorem PartsT.one {w:World} {base:Nat} {k:Kno} {ss:List (Value×Value)} (h:PartsT w base k ss):∀u∈yt ss,u.oneCell'=true:=by
 intro u hu;simp only[yt,List.mem_flatMap] at hu;obtain⟨p,hp,hu⟩:=hu;obtain⟨i,hi,rfl⟩:=List.getElem_of_mem hp;obtain⟨q,e,⟨_,_,_,h1,_⟩,⟨_,_,_,h2,_⟩⟩:=h.2 i (by rw[←h.1];exact hi);rw[List.getElem?_eq_getElem hi] at e;cases e;simp only[List.mem_cons,List.not_mem_nil,or_false] at hu;rcases hu with rfl | rfl
 · rw[h1];rfl
 · rw[h2];rfl
theorem z1g {w:World} (base inner:Nat) (x:Value) (k j:Kno) (hown:OwnK w base inner x k) (ts:List (Value×Value)) (hp:PartsT w inner j ts) (A:Option Addr) (cA:Nat)
 (hr:Rd w 2 A j.length (yt ts)) (hb:k.length+j.length≤1000000) (hbase:base≤w.heap.size) (hin:inner≤base):
 ∃x' w',(Builtin.append_ #[25,25] 25 #[x,.slice A j.length cA]).run Tryz.prog w=.ok x' w'∧OwnK w' base inner x' (k++j)∧w.grownBy w' x.ownBlock∧Steady base zbp w w':=by
 obtain⟨ss,ho,hh⟩:=hown;obtain⟨x',w',h1,h2,h3⟩:=zcp base _ _ _ _ 2 48 Tryz.underlying25 Tryz.info_frg rfl (by omega) x k.length _ ho A j.length cA _ hr hp.one (by unfold maxLen;omega) (by omega) hbase;have hs:Steady base zbp w w':=.grown ho h3 (by rintro(h | h) <;> cases h);refine⟨x',w',h1,⟨ss++ts,?_,(hh.append hp).steady (hs.lower hin) (.inl rfl) (.inr rfl)⟩,h3,hs⟩;rw[zko,List.length_append];exact h2
end
section
open Go.RowKit
theorem zsa {base:Nat} {f:Ent} {x:Ending} {w':World} (h:zc0 base (some f) x w') (hl:zq f.2.2):∃a c,x=.returned (.tuple #[ky f (.slice a f.2.2.length c),.bool true])∧∀b,IvsT w' b a f.2.2.length c f.2.2:=by
 obtain⟨s,rfl,ho⟩:=h;obtain⟨a,c,rfl,h0⟩:=zdn (base':=0) ho hl;exact⟨a,c,rfl,fun b=>h0.raise (Nat.zero_le _)⟩
theorem Frags.fix {w:World} {b o n cap:Nat} {k:Kno} (h:Frags w (some ⟨b,o,none⟩) n cap k) {i:Nat} (hi:i<n):∃x m c y m' c',∀w',Below w.heap.size w w'→
 w'.cell? ⟨b,o+i*2,none⟩=some (.slice x m c)∧Ivs w' x m c (za k i).1∧w'.cell? ⟨b,o+i*2+1,none⟩=some (.slice y m' c')∧Ents w' y m' c' (za k i).2:=by
 obtain⟨b',o',hs,hc⟩:=h.cells (by omega);cases hs;obtain⟨⟨x,m,c,h1,h2⟩,⟨y,m',c',h3,h4⟩⟩:=hc i hi;exact⟨x,m,c,y,m',c',fun w' hb=>⟨(hb.cell (p:=⟨b,o+i*2,none⟩) (ze h1)).trans h1,h2.below hb,(hb.cell (p:=⟨b,o+i*2+1,none⟩) (ze h3)).trans h3,h4.below hb⟩⟩
theorem Frags.some {w:World} {a:Option Addr} {n cap:Nat} {k:Kno} (h:Frags w a n cap k) (hn:0<n):∃b o,a=some ⟨b,o,none⟩:=by
 obtain⟨b,o,ha,-⟩:=h.cells hn;exact⟨b,o,ha⟩
def kt (k:Kno) (x d:Nat):Vec:=atK (k.take d) x
theorem zns (k:Kno) (x:Nat):kt k x 0=[]:=rfl
theorem zkr {k:Kno} {x d:Nat} (h:d<k.length):kt k x (d+1)=if mem (za k d).1 x=true then doV gOr (kt k x d) (za k d).2 else kt k x d:=by
 unfold kt atK;rw[List.take_succ_eq_append_getElem h,List.foldl_append,ym h]
 rfl
theorem zia (k:Kno) (x:Nat):kt k x k.length=atK k x:=by unfold kt;rw[List.take_length]
structure KnoFits (k:Kno):Prop where
 len:k.length≤500
 items:∀f∈k,f.1.length≤500
 vec:∀f∈k,VecFits f.2
 at_:∀x d,VecFits (kt k x d)
theorem zks {k:Kno} (h:LtK k) (x d:Nat):LtV (kt k x d):=(zc1 (fun f hf=>h f (List.mem_of_mem_take hf)) x).2.1
def kz (k:Kno) (x d:Nat):List Nat:=(List.range d).filter fun i=>mem (za k i).1 x
theorem zib (k:Kno) (x d:Nat):kz k x (d+1)=kz k x d++(if mem (za k d).1 x=true then [d] else []):=by
 unfold kz;rw[List.range_succ,List.filter_append];congr 1;by_cases h:mem (za k d).1 x=true
 · simp[h]
 · simp[h]
theorem zkt (k:Kno) (x d:Nat):(kz k x d).length≤d:=by
 have:=List.length_filter_le (fun i=>mem (za k i).1 x) (List.range d);simpa [kz] using this
theorem znt {w:World} {ops:Array Oper} {rest:List Oper} {o:Oper} {a:Act} {Q:Exit→Act→World→Prop} (hgd:o.guard=none) (s x:Operand)
 (ho:o.op=.call { callee:=.builtin .append,args:= #[s,x],argTypes:= #[83,83] }) (hty:o.type=83)
 (base:Nat) (v:Value) (vs:Vec) (hs:a.eval s=v) (hown:OwnV w base v vs) (A:Option Addr) (c:Nat) (e:Ent) (ea:Option Addr) (en ec:Nat) (hI:IvsT w 0 ea en ec e.2.2) (hx:a.eval x=.slice A 1 c)
 (hr:Rd w 3 A 1 [.int .u64 ((e.1:Nat):Int),.int .u64 ((e.2.1:Nat):Int),.slice ea en ec]) (hb:vs.length+1≤1000000) (hbase:base≤w.heap.size)
 (h:∀v' w',OwnV w' base v' (vs++[e])→w.grownBy w' v.ownBlock→Steady base zb1 w w'→wpList Tryz.prog ops Q rest (a.put o.dst v') w'):wpList Tryz.prog ops Q (o :: rest) a w:=by
 obtain⟨v',w',hrun,h1,h2,h3⟩:=z0v base v vs e hown ea en ec hI A c hr hb hbase;exact jf _ _ _ ho (by simp[Region.wanted,hgd]) _ _ hs hx v' w' (by rw[hty];exact hrun) (h v' w' h1 h2 h3)
theorem zsb {w:World} {ops:Array Oper} {rest:List Oper} {o:Oper} {a:Act} {Q:Exit→Act→World→Prop} (hgd:o.guard=none) (s x:Operand)
 (ho:o.op=.call { callee:=.builtin .append,args:= #[s,x],argTypes:= #[50,50] }) (hty:o.type=50)
 (base:Nat) (v:Value) (n:Nat) (xs:List Nat) (hs:a.eval s=v) (hown:w.ownsRow base 52 1 v n (zi xs)) (A:Option Addr) (m c:Nat) (l:List Nat) (hx:a.eval x=.slice A m c) (hr:Rd w 1 A m (zi l)) (hb:n+m≤1000000) (hbase:base≤w.heap.size)
 (h:∀v' w',w'.ownsRow base 52 1 v' (n+m) (zi (xs++l))→w.grownBy w' v.ownBlock→wpList Tryz.prog ops Q rest (a.put o.dst v') w'):wpList Tryz.prog ops Q (o :: rest) a w:=by
 obtain⟨v',w',hrun,h1,h2⟩:=zeo base v n xs hown A m c l hr hb hbase;exact jf _ _ _ ho (by simp[Region.wanted,hgd]) _ _ hs hx v' w' (by rw[hty];exact hrun) (h v' w' h1 h2)
theorem zc7 {w:World} {ops:Array Oper} {o:Oper} {a:Act} {K:Act→World→Prop} {Q:Exit→Act→World→Prop} {E:Prop} (hgd:o.guard=none) (s x:Operand)
 (ho:o.op=.call { callee:=.builtin .append,args:= #[s,x],argTypes:= #[25,25] }) (hty:o.type=25)
 (base inner:Nat) (v:Value) (k:Kno) (hs:a.eval s=v) (hown:OwnK w base inner v k) (A:Option Addr) (c n:Nat) (j:Kno) (hn:n=j.length) (ts:List (Value×Value)) (hp:PartsT w inner j ts) (hx:a.eval x=.slice A n c)
 (hr:Rd w 2 A n (yt ts)) (hb:k.length+j.length≤1000000) (hbase:base≤w.heap.size) (hin:inner≤base)
 (h:∀v' w',OwnK w' base inner v' (k++j)→w.grownBy w' v.ownBlock→Steady base zbp w w'→K (a.put o.dst v') w'):
 if Region.wanted o (yielded ops a.tmps)=true then Oper.wp Tryz.prog o a w K Q else E:=by
 subst hn;obtain⟨v',w',hrun,h1,h2,h3⟩:=z1g base inner v k j hown ts hp A c hr hb hbase hin;exact zem hgd s x _ ho _ _ hs hx v' w' (by rw[hty];exact hrun) (h v' w' h1 h2 h3)
theorem OwnV.lt {w:World} {base:Nat} {v:Value} {vs:Vec} (h:OwnV w base v vs):∀k,v.ownBlock=some k→base≤k∧k<w.heap.size:=by
 obtain⟨ss,ho,-⟩:=h;exact fun k hk=>ho.lt k hk
theorem OwnK.lt {w:World} {base inner:Nat} {v:Value} {k:Kno} (h:OwnK w base inner v k):∀j,v.ownBlock=some j→base≤j∧j<w.heap.size:=by
 obtain⟨ss,ho,-⟩:=h;exact fun j hj=>ho.lt j hj
def LstTo (w:World) (k:Kno) (d:Nat) (xs:List Value):Prop:=xs.length=d∧∀i,i<d→∃x m c,xs[i]?=some (.slice x m c)∧∀w',Below w.heap.size w w'→Ivs w' x m c (za k i).1
theorem LstTo.snoc {w:World} {k:Kno} {d:Nat} {xs:List Value} {x:Option Addr} {m c:Nat} (h:LstTo w k d xs) (hI:∀w',Below w.heap.size w w'→Ivs w' x m c (za k d).1):LstTo w k (d+1) (xs++[.slice x m c]):=by
 refine⟨by simp[h.1],fun i hi=>?_⟩;by_cases e:i=d
 · subst e;exact⟨x,m,c,by rw[List.getElem?_append_right (by rw[h.1];omega),h.1];simp,hI⟩
 · obtain⟨x',m',c',h1,h2⟩:=h.2 i (by omega);exact⟨x',m',c',by rw[List.getElem?_append_left (by rw[h.1];omega)];exact h1,h2⟩
theorem LstTo.rls {w w':World} {k:Kno} {n:Nat} {xs:List Value} {v:Value} (h:LstTo w k n xs) (hn:k.length=n) (hb:Below w.heap.size w w') (ho:w'.ownsRow w.heap.size 81 1 v n xs):∃a c,v=.slice a n c∧Rls w' a n c (k.map (·.1)):=by
 have ho2:=ho;rcases ho.2 with ⟨rfl,h0⟩ | ⟨g,cap,cur,rfl,hg,hh,hnc,hcm,_⟩
 · rw[h0] at hn ⊢;exact⟨none,0,rfl,by simpa using hn,by omega,by omega,fun _=>rfl,fun h=>by omega⟩
 · refine⟨_,_,rfl,by simpa using hn,hnc,by unfold maxLen at hcm;omega,(by intro h;cases h),fun h0=>⟨g,0,rfl,fun i hi=>?_⟩⟩;obtain⟨x,m,c,e,h2⟩:=h.2 i hi;have hI:=h2 w' hb;have c1:=ho2.cells (g:=g) rfl _ _ e;rw[yp] at c1
   have hk:(k.map (·.1)).getD i []=(za k i).1:=by
    have hi':i<k.length:=by omega
    rw[ym hi',List.getD_eq_getElem?_getD,List.getElem?_map,List.getElem?_eq_getElem hi']
    rfl
   rw[hk];refine⟨x,c,?_,by rw[hI.len];exact hI⟩;rw[hI.len];exact c1
end
section
open Go.RowKit Go.Maps
def zba (k:Kno) (d e x:Nat):Prop:=x=0∨(∃f∈k.take d,x∈yh f.1)∨x∈yh ((za k d).1.take e)
theorem z1h (k:Kno) (x:Nat):zba k 0 0 x↔x=0:=by simp[zba,yh]
theorem z1i (k:Kno) (x:Nat):zba k k.length 0 x↔x∈jh k:=by
 rw[zkc];simp[zba,yh]
theorem z1j {k:Kno} {d:Nat} (hd:d<k.length) (x:Nat):zba k d (za k d).1.length x↔zba k (d+1) 0 x:=by
 unfold zba;have hs:k.take (d+1)=k.take d++[za k d]:=by rw[List.take_succ_eq_append_getElem hd,ym hd]
 rw[hs,List.take_length];simp[yh]
theorem z1k {k:Kno} {d e:Nat} (he:e<(za k d).1.length) (x:Nat):zba k d (e+1) x↔((zba k d e x∨x=(zb (za k d).1 e).1)∨((zb (za k d).1 e).2<18446744073709551615∧x=(zb (za k d).1 e).2+1)):=by
 unfold zba;rw[List.take_succ_eq_append_getElem he,zy0,List.mem_append,←qf he];have:yh [zb (za k d).1 e]=bnd (zb (za k d).1 e):=by simp[yh]
 rw[this,zd8];simp only[or_assoc]
def rB (v:Value):Option (DataW Value×List MemPlace):=
 match v with
 | .bool b=>some (.lit (.bool b),[])
 | _=>none
structure SetS (w:World) (B n:Nat) (D:DataW Value) (S:Nat→Prop):Prop where
 own:w.ownsMap Tryz.prog 52 rB B n D
 keys:∀r:Nat,Maps.has D (.int .u64 (r:Int))=true↔S r
theorem SetS.put {w w':World} {B n m x:Nat} {D:DataW Value} {S S':Nat→Prop} (h:SetS w B n D S) (hown:w'.ownsMap Tryz.prog 52 rB B m (D.put (.int .u64 (x:Int)) (.lit (.bool true)))) (hS:∀r,S' r↔S r∨r=x):SetS w' B m (D.put (.int .u64 (x:Int)) (.lit (.bool true))) S':=by
 refine⟨hown,fun r=>?_⟩;rw[hS r];by_cases e:r=x
 · subst e;rw[has_put_same h.own.isMap (show WideAt.IsKeyLit (.int .u64 (r:Int)) from trivial)];simp
 · rw[has_put_other (zfv e),h.keys r];simp[e]
theorem SetS.kept {w w':World} {B n:Nat} {D:DataW Value} {S:Nat→Prop} (h:SetS w B n D S) (hb:Below w.heap.size w w'):SetS w' B n D S:=⟨h.own.kept (zbq hb) (by simp),h.keys⟩
theorem SetS.congr {w:World} {B n:Nat} {D:DataW Value} {S S':Nat→Prop} (h:SetS w B n D S) (hS:∀r,S r↔S' r):SetS w B n D S':=⟨h.own,fun r=>(h.keys r).trans (hS r)⟩
theorem z1l {H:Type} {P:Program} (w:World) {ops:Array Oper} {rest:List Oper} {o:Oper} {a:Act} {Q:Exit→Act→World→Prop}
 (hg:o.guard=none) (m x v:Operand) (t:TypeId) (hop:o.op=Op.insert t m x v)
 (k e:TypeId) (K:Keyed P k) (ht:P.underlying t=some (.map k e)) (R:Value→Option (DataW H×List MemPlace)) (b n:Nat) (D:DataW H)
 (hm:a.eval m=.map (some b)) (hown:w.ownsMap P k R b n D) (hn:n<maxLen) (key val:Value) (kl:Lit) (hx:a.eval x=key) (hv:a.eval v=val) (hkey:keyOf P k key=some kl)
 (d:DataW H) (ps:List MemPlace) (hval:R val=some (d,ps))
 (hK:∀w',w'.ownsMap P k R b (n+1) (D.put kl d)→w.grownBy w' (some b)→wpList P ops Q rest (a.put o.dst undef) w'):
 wpList P ops Q (o :: rest) a w:=by
 refine wpList_plain hg fun K' hK'=>?_
 obtain⟨w',hrun,r1,r2⟩:=hown.update K ht hn hkey hval;unfold Oper.wp;simp[execOp,hop,hm,hx,hv,hrun,Result.andThen];exact hK' _ _ (hK w' r1 r2)
structure Sift (k:Kno) (D:DataW Value) (left:Lit→Bool):Prop where
 keys:∀r:Nat,Maps.has D (.int .u64 (r:Int))=true↔(r∈jh k∧(left (.int .u64 (r:Int))=true∨r∈zx k))
theorem znu (x y:Nat):Lit.sameKey (.int .u64 (x:Int)) (.int .u64 (y:Int))=decide (x=y):=by
 by_cases e:x=y
 · subst e;simp[WideAt.sameKey_self (show WideAt.IsKeyLit (.int .u64 (x:Int)) from trivial)]
 · rw[sameKey_ne (zfv e),decide_eq_false e]
theorem Sift.start {k:Kno} {D:DataW Value} (h:∀r:Nat,Maps.has D (.int .u64 (r:Int))=true↔r∈jh k):Sift k D (Maps.has D):=
 ⟨fun r=>by rw[h r];constructor
            · exact fun hr=>⟨hr,.inl hr⟩
            · exact fun hr=>hr.1⟩
theorem Sift.stay {k:Kno} {D:DataW Value} {left:Lit→Bool} (h:Sift k D left) {x:Nat} (hx:x∈zx k):Sift k D (fun z=>left z && !z.sameKey (.int .u64 (x:Int))):=by
 refine⟨fun r=>?_⟩;rw[h.keys r,znu];by_cases e:r=x
 · subst e;constructor
   · exact fun h1=>⟨h1.1,.inr hx⟩
   · exact fun h1=>⟨h1.1,.inr hx⟩
 · simp[e]
theorem Sift.drop {k:Kno} {D:DataW Value} {left:Lit→Bool} (h:Sift k D left) {x:Nat} (hx:x∉zx k):Sift k (D.del (.int .u64 (x:Int))) (fun z=>left z && !z.sameKey (.int .u64 (x:Int))):=by
 refine⟨fun r=>?_⟩;rw[znu];by_cases e:r=x
 · subst e;rw[has_del_same];simp[hx]
 · rw[has_del_other (zfv e),h.keys r];simp[e]
theorem Sift.all {k:Kno} {D:DataW Value} {left:Lit→Bool} (h:Sift k D left) (hl:∀kl,left kl=false) (r:Nat):Maps.has D (.int .u64 (r:Int))=true↔r∈zx k:=by
 rw[h.keys r,hl];constructor
 · rintro⟨-,h1 | h1⟩
   · cases h1
   · exact h1
 · exact fun h1=>⟨(zh0.1 h1).1,.inr h1⟩
structure Coll (D:DataW Value) (left:Lit→Bool) (L:List Nat):Prop where
 nodup:L.Nodup
 mem:∀x:Nat,x∈L↔(Maps.has D (.int .u64 (x:Int))=true∧left (.int .u64 (x:Int))=false)
theorem Coll.start (D:DataW Value):Coll D (Maps.has D) []:=⟨List.nodup_nil,fun x=>by cases Maps.has D (.int .u64 (x:Int)) <;> simp⟩
theorem Coll.step {D:DataW Value} {left:Lit→Bool} {L:List Nat} (h:Coll D left L) {x:Nat} (hh:Maps.has D (.int .u64 (x:Int))=true) (hl:left (.int .u64 (x:Int))=true):Coll D (fun z=>left z && !z.sameKey (.int .u64 (x:Int))) (L++[x]):=by
 have hn:x∉L:=fun hx=>by
  have:=((h.mem x).1 hx).2;rw[hl] at this;cases this
 refine⟨List.nodup_append.2 ⟨h.nodup,by simp,fun a ha b hb=>by simp at hb;subst hb;exact fun e=>hn (e ▸ ha)⟩,fun y=>?_⟩;rw[List.mem_append,List.mem_singleton,h.mem y,znu];by_cases e:y=x
 · subst e;simp[hh]
 · simp[e]
theorem zsc:∀{M:List Nat},M.Pairwise (· ≤·)→M.Nodup→Asc M
 | [],_,_=>trivial
 | a :: l,h,hn=>by
   obtain⟨h1,h2⟩:=List.pairwise_cons.1 h;obtain⟨h3,h4⟩:=List.nodup_cons.1 hn;refine zd0 (fun y hy=>?_) (zsc h2 h4);have:=h1 y hy;have:a≠y:=fun e=>h3 (e ▸ hy)
   omega
theorem z1m {k:Kno} {D:DataW Value} {left:Lit→Bool} {L M:List Nat} (h:Coll D left L) (hl:∀kl,left kl=false) (hk:∀r:Nat,Maps.has D (.int .u64 (r:Int))=true↔r∈zx k) (hp:M.Perm L) (hM:M.Pairwise (· ≤·)):M=zx k:=
 zgb (zsc hM (hp.nodup_iff.2 h.nodup)) (zd9 k) fun x=>by rw[hp.mem_iff,h.mem x,hl,←hk x];simp
end
section
open Go.RowKit
def k8 (v:Vec) (k:Nat):List Nat:=v.length :: (v.take k).flatMap kx
theorem zsd {v:Vec} {k:Nat} (h:k<v.length):k8 v (k+1)=k8 v k++kx (zc v k):=by
 unfold k8;rw[List.take_succ_eq_append_getElem h,List.flatMap_append,qn h];simp
theorem zse (v:Vec):k8 v v.length=qa v:=by unfold k8 qa;rw[List.take_length]
theorem zsf (l:List Iv) (k:Nat) (h:k<l.length):qs (l.take (k+1))=qs (l.take k)++[(zb l k).1,(zb l k).2]:=by
 unfold qs;rw[List.take_succ_eq_append_getElem h,List.flatMap_append,qf h];simp
theorem znv (l:List Iv):(qs l).length=2*l.length:=by
 unfold qs
 induction l with
 | nil=>rfl
 | cons s l ih=>simp only[List.flatMap_cons,List.length_append,ih,List.length_cons,List.length_nil];omega
theorem zku:∀(ss:List (Value×Value)) (k:Nat),(yt ss).take (k*2)=yt (ss.take k)
 | [],k=>by simp[yt]
 | s :: ss,0=>by simp[yt]
 | s :: ss,k+1=>by
   have e1:yt (s :: ss)=s.1 :: s.2 :: yt ss:=rfl;rw[e1,show (k+1)*2=k*2+1+1 by omega,List.take_succ_cons,List.take_succ_cons,zku ss k]
   rfl
theorem znw:∀(ss:List (Value×Value)) (k:Nat),(yt ss).drop (k*2)=yt (ss.drop k)
 | [],k=>by simp[yt]
 | s :: ss,0=>by simp
 | s :: ss,k+1=>by
   have e1:yt (s :: ss)=s.1 :: s.2 :: yt ss:=rfl;rw[e1,show (k+1)*2=k*2+1+1 by omega,List.drop_succ_cons,List.drop_succ_cons,znw ss k]
   rfl
theorem znx:∀(ss:List (Value×Value)) (k:Nat) (x y:Value),((yt ss).set (k*2) x).set (k*2+1) y=yt (ss.set k (x,y))
 | [],k,x,y=>by simp[yt]
 | s :: ss,0,x,y=>rfl
 | s :: ss,k+1,x,y=>by
   have e1:yt (s :: ss)=s.1 :: s.2 :: yt ss:=rfl;rw[e1,show (k+1)*2+1=(k*2+1)+1+1 by omega,show (k+1)*2=k*2+1+1 by omega,List.set_cons_succ,List.set_cons_succ,List.set_cons_succ,List.set_cons_succ,znx ss k x y]
   rfl
theorem OwnK.form {w:World} {base inner:Nat} {x:Value} {k:Kno} (h:OwnK w base inner x k):
 (x=.slice none 0 0∧k=[])∨∃g c ss,x=.slice (some ⟨g,0,none⟩) k.length c∧base≤g∧g<w.heap.size∧k.length≤c∧c≤maxLen∧w.ownsRow base 85 2 (.slice (some ⟨g,0,none⟩) k.length c) k.length (yt ss)∧PartsT w inner k ss:=by
 obtain⟨ss,ho,hh⟩:=h;have ho2:=ho;rcases ho.2 with ⟨rfl,h0⟩ | ⟨g,cap,cur,rfl,hg,hr,hnc,hcm,_⟩
 · exact .inl ⟨rfl,List.length_eq_zero_iff.1 h0⟩
 · exact .inr ⟨g,cap,ss,rfl,hg,(Array.getElem?_eq_some_iff.1 hr).1,hnc,hcm,ho2,hh⟩
theorem OwnK.form2 {w:World} {base inner n c:Nat} {a:Option Addr} {k:Kno} (h:OwnK w base inner (.slice a n c) k):
 (a=none∧n=0∧c=0∧k=[])∨∃g ss,a=some ⟨g,0,none⟩∧k.length=n∧base≤g∧g<w.heap.size∧n≤c∧c≤maxLen∧w.ownsRow base 85 2 (.slice (some ⟨g,0,none⟩) n c) n (yt ss)∧PartsT w inner k ss:=by
 rcases h.form with ⟨e,h0⟩ | ⟨g,c',ss,e,h1⟩
 · cases e;exact .inl ⟨rfl,rfl,rfl,h0⟩
 · cases e;exact .inr ⟨g,ss,rfl,rfl,h1⟩
theorem kj {w:World} {base g n c sz:Nat} {T:TypeId} {xs:List Value} (h:w.ownsRow base T sz (.slice (some ⟨g,0,none⟩) n c) n xs) (i:Nat):w.frozen? ⟨g,i,none⟩=false:=by
 rcases h.2 with ⟨h',_⟩ | ⟨g',cap,cur,h',hg,hr,_⟩
 · cases h'
 · cases h';simp[World.frozen?,hr]
def yf:Kno→Nat
 | []=>0
 | f :: k=>f.1.length+yf k
theorem zsg:∀(k j:Kno),yf (k++j)=yf k+yf j
 | [],j=>by simp[yf]
 | f :: k,j=>by rw[List.cons_append,yf,yf,zsg k j];omega
theorem zc8:∀{k:Kno} {f:Frg},f∈k→f.1.length≤yf k
 | g :: k,f,h=>by
   rw[yf];rcases List.mem_cons.1 h with rfl | h
   · omega
   · have:=zc8 h;omega
theorem zsh:∀{k:Kno} {f:Frg},(∀g∈k,zq g.1)→zq f.1→yf (ke k f)≤yf k+f.1.length∧(ke k f).length≤k.length+1
 | [],f,_,_=>by simp[ke,yf]
 | g :: k,f,h,hf=>by
   rw[ke];split
   · obtain⟨h1,h2⟩:=zsh (k:=k) (f:=f) (fun g hg=>h g (List.mem_cons_of_mem _ hg)) hf;rw[yf,yf,List.length_cons,List.length_cons];omega
   · split
     · have:=zj8 (h g List.mem_cons_self) hf;rw[yf,yf,List.length_cons,List.length_cons];simp only;omega
     · simp only[yf,List.length_cons];omega
def zbr (k:Kno) (d:Nat):Kno:=(k.take d).foldl stepG []
theorem zsi {k:Kno} {d:Nat} (h:d<k.length):zbr k (d+1)=stepG (zbr k d) (za k d):=by
 unfold zbr;rw[List.take_succ_eq_append_getElem h,List.foldl_append,ym h]
 rfl
theorem zkv (k:Kno):zbr k k.length=zce k:=by unfold zbr zce;rw[List.take_length]
theorem zsj {k:Kno} (h:∀f∈k,RawF f) (d:Nat):∀g∈zbr k d,GrpF g:=
 (zh5 (k:=k.take d) (out:=[]) (fun f hf=>h f (List.mem_of_mem_take hf)) (fun g hg=>by cases hg) List.Pairwise.nil).1
theorem zsk:∀{k out:Kno} {g:Frg},g∈k.foldl stepG out→(∃h∈out,h.2=g.2)∨∃f∈k,jm f.2=g.2
 | [],out,g,h=>.inl ⟨g,h,rfl⟩
 | f :: k,out,g,h=>by
   rw[List.foldl_cons] at h;rcases zsk h with ⟨e,he,e2⟩ | ⟨e,he,e2⟩
   · unfold stepG at he;split at he
     · exact .inl ⟨e,he,e2⟩
     · rcases znm he with h1 | ⟨g',hg',h1⟩
       · exact .inr ⟨f,List.mem_cons_self,h1.symm.trans e2⟩
       · exact .inl ⟨g',hg',h1.trans e2⟩
   · exact .inr ⟨e,List.mem_cons_of_mem _ he,e2⟩
theorem zny {k:Kno} (h:∀f∈k,VecFits (jm f.2)) (d:Nat):∀g∈zbr k d,VecFits g.2:=by
 intro g hg;rcases zsk hg with ⟨e,he,_⟩ | ⟨f,hf,e⟩
 · cases he
 · rw[←e];exact h f (List.mem_of_mem_take hf)
theorem zic:∀(k:Kno) (d:Nat),yf (k.take d)≤yf k
 | [],d=>by simp[yf]
 | f :: k,0=>by simp[yf]
 | f :: k,d+1=>by rw[List.take_succ_cons,yf,yf];have:=zic k d;omega
theorem znz:∀{k out:Kno},(∀f∈k,RawF f)→(∀g∈out,GrpF g)→out.Pairwise jy→yf (k.foldl stepG out)≤yf out+yf k∧(k.foldl stepG out).length≤out.length+k.length
 | [],out,_,_,_=>by simp[yf]
 | f :: k,out,h1,h2,h3=>by
   rw[List.foldl_cons,yf,List.length_cons];have hk:∀f∈k,RawF f:=fun g hg=>h1 g (List.mem_cons_of_mem _ hg)
   by_cases hc:jm f.2=[]∨f.1=[]
   · have e:stepG out f=out:=by unfold stepG;rw[if_pos hc]
     rw[e];have:=znz hk h2 h3;omega
   · have e:stepG out f=ke out (f.1,jm f.2):=by unfold stepG;rw[if_neg hc]
     rw[e];have hf:=zrw (h1 f List.mem_cons_self) hc;obtain⟨a1,a2,-⟩:=znn h2 h3 hf;have h4:=znz hk a1 a2;have h5:=zsh (k:=out) (f:=(f.1,jm f.2)) (fun g hg=>(h2 g hg).items) hf.items;simp only at h5;omega
theorem zid {k:Kno} (h:∀f∈k,RawF f) (d:Nat):yf (zbr k d)≤yf k∧(zbr k d).length≤k.length:=by
 have h1:=znz (k:=k.take d) (out:=[]) (fun f hf=>h f (List.mem_of_mem_take hf)) (fun g hg=>by cases hg) List.Pairwise.nil;have h2:=zic k d;rw[List.length_take] at h1;simp only[yf,List.length_nil] at h1;unfold zbr;omega
theorem zgn {w:World} {ops:Array Oper} {rest:List Oper} {o:Oper} {a:Act} {Q:Exit→Act→World→Prop} (hgd:o.guard=none) (s x:Operand)
 (ho:o.op=.call { callee:=.builtin .append,args:= #[s,x],argTypes:= #[81,81] }) (hty:o.type=81)
 (base:Nat) (v:Value) (n:Nat) (xs:List Iv) (hs:a.eval s=v) (hown:w.ownsRow base 99 2 v n (ivC xs)) (A:Option Addr) (m c:Nat) (l:List Iv) (hx:a.eval x=.slice A m c) (hr:Rd w 2 A m (ivC l)) (hb:n+m≤1000000) (hbase:base≤w.heap.size)
 (h:∀v' w',w'.ownsRow base 99 2 v' (n+m) (ivC (xs++l))→w.grownBy w' v.ownBlock→wpList Tryz.prog ops Q rest (a.put o.dst v') w'):wpList Tryz.prog ops Q (o :: rest) a w:=by
 obtain⟨v',w',hrun,h1,h2⟩:=zd4 base v n xs hown A m c l hr hb hbase;exact jf _ _ _ ho (by simp[Region.wanted,hgd]) _ _ hs hx v' w' (by rw[hty];exact hrun) (h v' w' h1 h2)
def zbs (k:Kno) (d:Nat):List Iv:=((yx (inK k) (zx k)).take d).filterMap fun p=>if p.2=true then some p.1 else none
theorem zsl {k:Kno} {d:Nat} (h:d<(zx k).length):zbs k (d+1)=zbs k d++(if inK k (nth (zx k) d)=true then [za4 (zx k) d] else []):=by
 unfold zbs;have hk:d<(yx (inK k) (zx k)).length:=by rw[zav];exact h
 have e:=zmr (inK k) h;rw[List.getElem?_eq_getElem hk,Option.some.injEq] at e;rw[List.take_succ_eq_append_getElem hk,List.filterMap_append,e];simp only[List.filterMap_cons,List.filterMap_nil];cases inK k (nth (zx k) d) <;> rfl
theorem zie (k:Kno):zbs k (zx k).length=jz k:=by
 unfold zbs jz;rw[List.take_of_length_le (by rw[zav];exact Nat.le_refl _)]
theorem zif (k:Kno) (d:Nat):(zbs k d).length≤(zx k).length:=by
 have h:=List.length_filterMap_le (fun p:Iv×Bool=>if p.2=true then some p.1 else none) ((yx (inK k) (zx k)).take d);rw[List.length_take,zav] at h;unfold zbs;omega
theorem zsm (k:Kno):(zx k).length≤(qd (k.map (·.1))).length:=by
 have h:=List.length_filter_le (fun x=>decide (x=0) || decide (zw k (x - 1)≠zw k x)) (jh k);have h2:(jh k).length≤(qd (k.map (·.1))).length:=zcz (zro k) (fun y hy=>(zdl (qd (k.map fun f:Frg=>f.1)) y).1 hy);unfold zx;omega
theorem zkw (k:Kno):(jz k).length≤(qd (k.map (·.1))).length:=by
 have h1:=zif k (zx k).length;rw[zie] at h1;have h2:=zsm k;omega
theorem zsn (k:Kno) (x:Kno) (l:List Iv):yf (l.map fun s=>([s],atK k s.1))=l.length:=by
 induction l with
 | nil=>rfl
 | cons s l ih=>rw[List.map_cons,yf,ih,List.length_cons];simp;omega
end
end Go.Proofs.YtdnjfnofjaoajaaGreatDoor
