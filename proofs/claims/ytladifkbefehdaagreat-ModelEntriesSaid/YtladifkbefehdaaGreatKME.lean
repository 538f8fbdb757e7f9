/- The law: for every input it returns true, and each argument reads behind the call as it read before; and what leads there. Conditions: each lemma's own. -/
import Derived.OpenShut
import Derived.Test.YtladifkbefehdaaGreatChecked
import Derived.Test.YtladifkbefehdaaGreatRows
import Derived.Test.YtladifkbefehdaaGreatKMEM6
set_option linter.unusedVariables false
set_option linter.unusedSimpArgs false
namespace Go.Proofs.YtladifkbefehdaaGreat
open Go.RowKit Go.ChangeShapes Go.WideShapes
theorem DH:ownKnob Tryz.prog.godebug=none:=by kernel_rfl
theorem Dv:laidOutB Tryz.prog=true:=by kernel_rfl
theorem RZ:Tr Tryz.prog (ao aF) 24 (.nm .command):=Tr.struct (ss:=[.int,.int,.int,.int,.int,.int,(.lst .int),.str]) Tryz.underlying24 (by kernel_rfl) (fun cells h=>by
 obtain ⟨y0,l0,rfl,y1,l1,rfl,y2,l2,rfl,y3,l3,rfl,y4,l4,rfl,y5,l5,rfl,y6,l6,rfl,y7,l7,rfl,rfl⟩:=h
 exact ⟨⟨y0,y1,y2,y3,y4,y5,y6,y7⟩,rfl⟩) (wY.cons (Tr.int Tryz.underlying3) rfl (by kernel_rfl) (wY.cons (Tr.int Tryz.underlying3) rfl (by kernel_rfl) (wY.cons (Tr.int Tryz.underlying3) rfl (by kernel_rfl) (wY.cons (Tr.int Tryz.underlying3) rfl (by kernel_rfl) (wY.cons (Tr.int Tryz.underlying3) rfl (by kernel_rfl) (wY.cons (Tr.int Tryz.underlying3) rfl (by kernel_rfl) (wY.cons (Tr.list Tryz.underlying22 (by kernel_rfl) (by kernel_rfl) (Tr.int Tryz.underlying3)) rfl (by kernel_rfl) (wY.cons (Tr.str Tryz.underlying9) rfl (by kernel_rfl) (wY.nil)))))))))
theorem Ob {H:Type} {enc:TypeId × Value->H} {P:Program} {shp:TypeId->Option Sh} {W:World} {t:TypeId} {v:Value} {n:Nat} {e:TypeId} {s:Sh} (h:Ar enc P W t v) (hu:P.underlying t=some (.array n e)) (hC:P.cellsOf e=s.size) (hz:P.cellsOf t=n*s.size) (he:Tr P shp e s):∃ xs:List (den s),xs.length=n/\de (wH shp W) [] (.agg (xs.flatMap (cellsOf s))) v:=by
 obtain ⟨base,hf⟩:=h.form
 obtain ⟨cs,rfl⟩:∃ cs,v = .agg cs:=by
  simp only [Value.okWide,hu] at hf
  obtain ⟨cs,h1,_⟩:=hf
  exact ⟨cs,h1⟩
 obtain ⟨d,p,fuel,h1,h2,h3⟩:=h.read
 obtain ⟨ys,m,_,hdp,hl,hyl,hg⟩:=DataW.trod_array hu h1
 obtain ⟨rfl,rfl⟩:=Prod.mk.inj hdp
 have step:∀ k,k<=n->∃ xs:List (den s),xs.length=k/\Pds (wH shp W) (xs.flatMap (cellsOf s)) ((Value.cells (.agg cs)).toList.take (k*s.size)):=by
  intro k
  induction k with
  | zero=>intro _; exact ⟨[],rfl,by simp; exact .nil⟩
  | succ k ih=>
   intro hk
   obtain ⟨xs,hx,hp⟩:=ih (by omega)
   have hgk:=hg k (by omega)
   rw [hC,List.getElem?_eq_getElem (show k<ys.length by omega)] at hgk
   obtain ⟨y,hy⟩:=he H enc W m _ _ hgk (fun q hq=>h2 q (by simp only [DataW.weights,hu]; exact fE (List.mem_map_of_mem (List.getElem_mem (show k<ys.length by omega))) q hq)) (fun q hq=>h3 q (List.mem_flatMap.2 ⟨_,List.getElem_mem (show k<ys.length by omega),hq⟩))
   refine ⟨xs++[y],by simp [hx],?_⟩
   rw [qk,Nat.succ_mul,List.take_add]
   exact hp.append hy
 obtain ⟨xs,hx,hp⟩:=step n (Nat.le_refl _)
 refine ⟨xs,hx,cs.toList,by simp,ep ?_⟩
 rw [List.take_of_length_le (by rw [hl,hz]; exact Nat.le_refl _)] at hp
 simpa [Value.cells] using hp
set_option maxRecDepth 100000 in
theorem kx (os:Os) (started:os.Started) (H:Type) (enc:TypeId × Value->H) :
  ReturnsInHanded {} Tryz.checked os 3 .any (Rows.modelEntriesSpec.pre6 enc Tryz.prog Tryz.f3 Rows.modelEntriesRow.domain false) (Rows.modelEntriesSpec.post enc Tryz.prog Tryz.f3 false true false false):=by
 refine ER (C:=Tryz.checked) DH started (by kernel_rfl) Tryz.func3 (ChangeSpec.witness6 (enc:=enc) (C:=Tryz.checked) false ⟨#[],#[.agg #[.int .i64 0,.int .i64 0,.int .i64 0,.int .i64 0,.int .i64 0,.int .i64 0,.slice none 0 0,.string ⟨#[]⟩],.int .i64 0,.agg #[.int .u8 0,.int .u8 0]],[]⟩ 8 (by kernel_rfl) (by kernel_rfl) (by kernel_rfl) (by kernel_rfl)) Dv (by kernel_rfl) (by kernel_rfl) Tryz.underlying4 rfl (fun ds h=>?_) ?_
 ·match ds,h with
  | [d0,d1,d2],_=>rfl
 ·intro W args hs ha
  obtain ⟨l⟩:=args
  match l,hs with
  | [v0,v1,v2],_=>
   obtain ⟨x0,h0⟩:=Ar.struct (shp:=ao aF) (ha 0 24 _ rfl rfl) Tryz.underlying24 RZ
   obtain ⟨x1,h1⟩:=Ar.int (shp:=ao aF) (ha 1 3 _ rfl rfl) Tryz.underlying3
   obtain ⟨xs2,hl2,h2⟩:=Ob (shp:=ao aF) (s:=.u8) (ha 2 25 _ rfl rfl) Tryz.underlying25 (by kernel_rfl) (by kernel_rfl) (Tr.u8 Tryz.underlying5)
   obtain ⟨y2_0,y2_1,rfl⟩:∃ y2_0 y2_1,xs2=[y2_0,y2_1]:=by match xs2,hl2 with | [y2_0,y2_1],_=>exact ⟨y2_0,y2_1,rfl⟩
   exact IX (HH x0 x1 [y2_0,y2_1] rfl) rfl (.cons h0 (.cons h1 (.cons h2 .nil)))
theorem modelEntries_holds:Rows.ModelEntriesSaid:=
 OpenClaim.holds_of_wide 3 Tryz.f3 rfl rfl rfl rfl rfl rfl rfl ⟨rfl,rfl,rfl,rfl,rfl⟩ rfl rfl rfl rfl rfl (by kernel_rfl) Tryz.func3 (by kernel_rfl)
  (of_decide_eq_true (by kernel_rfl)) (by unfold Func.isWrapper; first | (rw [if_pos (by decide +kernel)]; kernel_rfl) | (rw [if_neg (by decide +kernel)]; exact ⟨rfl,rfl⟩))
  (fun os started H enc _=>kx os started H enc)
end Go.Proofs.YtladifkbefehdaaGreat
