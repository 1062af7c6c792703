/- Part 35. -/
import Derived.Test.YtmfhggnlainmiaaGreatDoorPk30
import Derived.Test.YtmfhggnlainmiaaGreatDoorPk19
set_option linter.unusedVariables false
namespace Go.Proofs.YtmfhggnlainmiaaGreatDoor
section
open Go.RowKit
def ydn (k:IntKind) (w:World) (a:Option Addr) (len cap:Nat) (zs:List Int):Prop:=
 (a=none∧len=0∧cap=0∧zs=[])∨
 ∃x,a=some x∧len≤cap∧cap≤maxLen∧zs.length=cap∧(∀i,i<zs.length→w.cell? (x.add i)=some (.int k (zs.getD i 0)))∧∀n∈zs,(Lit.int k n).wf=true
theorem z08 {n:Int} (h:(Lit.int .u8 n).wf=true):0≤n∧n<256:=by
 simp[Lit.wf,IntKind.min,IntKind.max,IntKind.signed,IntKind.bits] at h;omega
theorem z09 {w:World} {a:Option Addr} {len cap:Nat} {zs:List Int} (h:ydn .u8 w a len cap zs):Byts w a len cap ((zs.take len).map Int.toNat):=by
 rcases h with ⟨rfl,rfl,rfl,rfl⟩ | ⟨x,rfl,hl,hm,hz,hc,hw⟩
 · exact z02 w
 · refine⟨by simp;omega,?_,hl,by unfold maxLen at hm;omega,(by intro h;cases h),fun hn=>?_⟩
   · intro y hy;simp only[List.mem_map] at hy;obtain⟨z,hzm,rfl⟩:=hy;have:=z08 (hw z (List.mem_of_mem_take hzm));omega
   · have h0:=hc 0 (by omega);have hx:x.add 0=x:=rfl;rw[hx] at h0;obtain⟨b,o,sp⟩:=x
     have hsp:sp=none:=by
      cases sp with
      | none=>rfl
      | some k=>
       unfold World.cell? at h0;split at h0 <;> simp at h0
     subst hsp;refine⟨b,o,rfl,fun i hi=>?_⟩;have h1:=hc i (by omega);rw[qg] at h1;rw[h1];have hlt:i<zs.length:=by omega
     have hb:=z08 (hw zs[i] (List.getElem_mem hlt))
     have:nth ((zs.take len).map Int.toNat) i=(zs.getD i 0).toNat:=by
      simp[nth,hi,hlt]
     rw[this];congr 2;rw[List.getD_eq_getElem?_getD,List.getElem?_eq_getElem hlt];simp;omega
end
section
open Go.ChangeShapes Go.WideShapes Go.RowKit Go.ChangeAt
theorem zi6 {H:Type} {enc:TypeId×Value→H} {W:World} {fuel n cap:Nat} {a:Option Addr} {x:DataW H×List MemPlace} (h:DataW.trod enc Tryz.prog W 0 (fun _=>true) true fuel 22 (Value.slice a n cap).cells.toList=some x):∃l,Byts W a n cap l:=by
 rcases open_ints Tryz.underlying22 Tryz.underlying5 (by kernel_rfl) h with ⟨hcs,_⟩ | ⟨x,l,c,zs,hcs,_,hl,hm,hz,_,hcell,hwz⟩
 · simp[Value.cells] at hcs;obtain⟨rfl,rfl,rfl⟩:=hcs;exact⟨_,z09 (.inl ⟨rfl,rfl,rfl,rfl⟩)⟩
 · simp[Value.cells] at hcs;obtain⟨rfl,rfl,rfl⟩:=hcs;exact⟨_,z09 (.inr ⟨_,rfl,hl,hm,by simpa using hz,hcell,hwz⟩)⟩
