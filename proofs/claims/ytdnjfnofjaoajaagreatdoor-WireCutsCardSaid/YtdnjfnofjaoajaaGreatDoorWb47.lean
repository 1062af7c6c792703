/- Walks and laws, joined: Wb47. -/
import Derived.Test.YtdnjfnofjaoajaaGreatDoorWb34
set_option linter.unusedVariables false
namespace Go.Proofs.YtdnjfnofjaoajaaGreatDoor
section
open Go.RowKit
theorem yac (w:World):Byts w none 0 0 []:=⟨rfl,by simp,by omega,by omega,fun _=>rfl,fun h=>by omega⟩
def yad (k:IntKind) (w:World) (a:Option Addr) (len cap:Nat) (zs:List Int):Prop:=
 (a=none∧len=0∧cap=0∧zs=[])∨
 ∃x,a=some x∧len≤cap∧cap≤maxLen∧zs.length=cap∧(∀i,i<zs.length→w.cell? (x.add i)=some (.int k (zs.getD i 0)))∧∀n∈zs,(Lit.int k n).wf=true
theorem zxz {n:Int} (h:(Lit.int .u8 n).wf=true):0≤n∧n<256:=by
 simp[Lit.wf,IntKind.min,IntKind.max,IntKind.signed,IntKind.bits] at h;omega
theorem zx0 {w:World} {a:Option Addr} {len cap:Nat} {zs:List Int} (h:yad .u8 w a len cap zs):Byts w a len cap ((zs.take len).map Int.toNat):=by
 rcases h with ⟨rfl,rfl,rfl,rfl⟩ | ⟨x,rfl,hl,hm,hz,hc,hw⟩
 · exact yac w
 · refine⟨by simp;omega,?_,hl,by unfold maxLen at hm;omega,(by intro h;cases h),fun hn=>?_⟩
   · intro y hy;simp only[List.mem_map] at hy;obtain⟨z,hzm,rfl⟩:=hy;have:=zxz (hw z (List.mem_of_mem_take hzm));omega
   · have h0:=hc 0 (by omega);have hx:x.add 0=x:=rfl;rw[hx] at h0;obtain⟨b,o,sp⟩:=x
     have hsp:sp=none:=by
      cases sp with
      | none=>rfl
      | some k=>
       unfold World.cell? at h0;split at h0 <;> simp at h0
     subst hsp;refine⟨b,o,rfl,fun i hi=>?_⟩;have h1:=hc i (by omega);rw[yp] at h1;rw[h1];have hlt:i<zs.length:=by omega
     have hb:=zxz (hw zs[i] (List.getElem_mem hlt))
     have:nth ((zs.take len).map Int.toNat) i=(zs.getD i 0).toNat:=by
      simp[nth,hi,hlt]
     rw[this];congr 2;rw[List.getD_eq_getElem?_getD,List.getElem?_eq_getElem hlt];simp;omega
end
section
def zbl (k:Kno) (i:Nat):Nat:=
 if (za k i).1=[]∨(za k i).2=[] then 9
 else if za9 (za k i).2=false then 10
 else if ((List.range i).any fun j=>decide (opL kq (za k i).1 (za k j).1≠[]))=true then 10
 else if 0<i∧yk (za k (i - 1)).2 (za k i).2≠ -1 then 3 else 0
end
section
open Go.RowKit
def zdy (k:Kno) (i:Nat):Option (Nat×Nat):=if zbl k i=0 then none else some (zbl k i,i)
def ckC (k:Kno):Option (Nat×Nat):=match ckF k with | some x=>some x | none=>qj (zdy k) k.length
end
section
theorem zpn {a b:List Iv} (ha:zq a) (hb:zq b):opL kq a b≠[]↔∃x,mem a x=true∧mem b x=true:=by
 obtain⟨g1,g2,g3⟩:=zai (g:=kq) ha hb rfl;constructor
 · intro hne;obtain⟨x,hx⟩:=zj3 g1 hne;rw[g2] at hx;unfold kq at hx;rw[Bool.and_eq_true] at hx;exact⟨x,hx⟩
 · rintro⟨x,h1,h2⟩ he;have:=g2 x;rw[he,zbx,h1,h2] at this;cases this
theorem zx1 {k:Kno} {i:Nat}:zbl k i=0↔((za k i).1≠[]∧(za k i).2≠[])∧za9 (za k i).2=true∧(∀j,j<i→opL kq (za k i).1 (za k j).1=[])∧(0<i→yk (za k (i - 1)).2 (za k i).2= -1):=by
 unfold zbl;constructor
 · intro h;split at h
   · cases h
   · rename_i h1;rw[not_or] at h1;split at h
     · cases h
     · rename_i h2;split at h
       · cases h
       · rename_i h3;split at h
         · cases h
         · rename_i h4;refine⟨h1,by simpa using h2,fun j hj=>?_,fun h0=>?_⟩
           · refine Decidable.by_contra fun hn=>h3 ?_
             exact List.any_eq_true.2 ⟨j,by simpa using hj,decide_eq_true hn⟩
           · exact Decidable.by_contra fun hn=>h4 ⟨h0,hn⟩
 · rintro⟨h1,h2,h3,h4⟩;rw[if_neg (fun h=>h.elim h1.1 h1.2),if_neg (by rw[h2];simp),if_neg,if_neg]
   · rintro⟨h0,hn⟩;exact hn (h4 h0)
   · intro h;obtain⟨j,hj,hn⟩:=List.any_eq_true.1 h;exact of_decide_eq_true hn (h3 j (by simpa using hj))
end
section
open Go.RowKit
theorem yae:∀k m,1≤(vbF k m).length
 | 0,m=>by simp[vbF]
 | k+1,m=>by rw[zcn];split <;> simp
theorem zpo:∀l:List Nat,l.length≤(zo l).length
 | []=>by simp[zo]
 | x :: l=>by
   have e:zo (x :: l)=jx x++zo l:=rfl;have h1:=zpo l;have h2:1≤(jx x).length:=yae 9 x;rw[e,List.length_append,List.length_cons];omega
theorem zpp (v:Vec):∀d,1+3*d≤(ql v d).length∧∀i,i<d→2*(zc v i).2.2.length≤(ql v d).length
 | 0=>⟨by simp[ql],fun i h=>by omega⟩
 | d+1=>by
   obtain⟨h1,h2⟩:=zpp v d
   have e:(ql v (d+1)).length=(ql v d).length+(3+2*(zc v d).2.2.length):=by
    rw[ql,List.length_append];unfold vv;rw[List.length_append];unfold kf;rw[ze2];simp
   rw[e];refine⟨by omega,fun i hi=>?_⟩;by_cases hd:i=d
   · subst hd;omega
   · have:=h2 i (by omega);omega
theorem zpq (c:Kno):∀d,1+d≤(y8 c d).length∧∀i,i<d→(vw (za c i).2).length≤(y8 c d).length
 | 0=>⟨by simp[y8],fun i h=>by omega⟩
 | d+1=>by
   obtain⟨h1,h2⟩:=zpq c d;have e:(y8 c (d+1)).length=(y8 c d).length+(vw (za c d).2).length:=by rw[y8,List.length_append]
   have hp:=(zpp (za c d).2 (za c d).2.length).1;have hp':1≤(vw (za c d).2).length:=by unfold vw;omega
   rw[e];refine⟨by omega,fun i hi=>?_⟩;by_cases hd:i=d
   · subst hd;omega
   · have:=h2 i (by omega);omega
end
section
open Go.ChangeShapes Go.WideShapes Go.RowKit Go.ChangeAt
theorem zx2 {H:Type} {enc:TypeId×Value→H} {W:World} {fuel n cap:Nat} {a:Option Addr} {x:DataW H×List MemPlace} (h:DataW.trod enc Tryz.prog W 0 (fun _=>true) true fuel 27 (Value.slice a n cap).cells.toList=some x):∃l,Byts W a n cap l:=by
 rcases open_ints Tryz.underlying27 Tryz.underlying5 (by kernel_rfl) h with ⟨hcs,_⟩ | ⟨x,l,c,zs,hcs,_,hl,hm,hz,_,hcell,hwz⟩
 · simp[Value.cells] at hcs;obtain⟨rfl,rfl,rfl⟩:=hcs;exact⟨_,zx0 (.inl ⟨rfl,rfl,rfl,rfl⟩)⟩
 · simp[Value.cells] at hcs;obtain⟨rfl,rfl,rfl⟩:=hcs;exact⟨_,zx0 (.inr ⟨_,rfl,hl,hm,by simpa using hz,hcell,hwz⟩)⟩
end
end Go.Proofs.YtdnjfnofjaoajaaGreatDoor
