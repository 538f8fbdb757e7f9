/- What leads to the law, part 4. Conditions: each lemma's own. -/
import Derived.Test.YtdggohppeeaipaaGreatKRM3
set_option linter.unusedVariables false
set_option linter.unusedSimpArgs false
namespace Go.Proofs.YtdggohppeeaipaaGreat
open Go.RowKit
theorem ml (z:Array Value) (n:Nat):(Builtin.zeroCells z n).toList.length=n*z.size:=by rw [Array.length_toList,size_zeroCells]
theorem ba {w:World} {g:Nat} {o:Obj} (h:w.heap[g]? = some o):g<w.heap.size:=(Array.getElem?_eq_some_iff.1 h).1
theorem cm:(Tryz.prog.info? 44).map (·.size)=some 4:=by kernel_rfl
theorem Am:(Tryz.prog.info? 44).map (fun i=>(i.zero,i.size,i.bytes))=some (some (.agg #[.int .i64 0,.int .i64 0,.int .i64 0,.int .i64 0]),4,32):=by kernel_rfl
set_option maxRecDepth 100000 in
set_option maxHeartbeats 1000000 in
theorem sq {w:World} {n c vc:Nat} {A:Option Addr} {B:Option Addr} {φ:Value->World->Prop} (happ:∀ (F:Fr) (x y:Operand) (ty:TypeId),ev F x=some (.slice A n c)->ev F y=some (.slice B 1 vc)->∃ v2 w2,aP Tryz.prog 95 F w (.call { callee:=.builtin .append,args:=#[x,y],argTypes:=#[22,22] }) ty v2 w2/\φ v2 w2) :
  g_ Tryz.prog 36 [.slice A n c,.int .i64 (n:Int),.slice B 1 vc].toArray w φ:=by
 refine g_.enter Tryz.func36 rfl rfl rfl rfl ?_
 refine WC.seq ?_
 refine WC.region ?_
 refine WO.v (R.assign rfl) rfl ?_
 refine WO.nil ?_
 refine WX.next ?_
 refine WC.seq ?_
 refine WC.region ?_
 refine WO.v (R.move rfl) rfl ?_
 refine WO.v (R.move rfl) rfl ?_
 refine WO.v (R.cj rfl rfl Tryz.underlying22 cm rfl (by omega)) rfl ?_
 refine WO.nil ?_
 refine WX.next ?_
 refine WC.seq ?_
 refine WC.region ?_
 refine WO.v (R.move rfl) rfl ?_
 refine WO.v (R.len rfl Tryz.underlying22) rfl ?_
 refine WO.v (R.assign rfl) rfl ?_
 refine WO.nil ?_
 refine WX.next ?_
 refine WC.seq ?_
 refine WC.seq ?_
 refine WC.region ?_
 refine WO.v (R.move rfl) rfl ?_
 refine WO.v (R.eql rfl rfl) rfl ?_
 refine WO.nil ?_
 refine WX.next ?_
 refine WC.cond rfl (fun q=>absurd (of_decide_eq_true q) (by omega)) (fun _=>?_)
 refine WC.skip ?_
 refine WX.next ?_
 refine WC.seq ?_
 refine WC.region ?_
 refine WO.v (R.move rfl) rfl ?_
 refine WO.v (R.len rfl Tryz.underlying22) rfl ?_
 refine WO.v (R.assign rfl) rfl ?_
 refine WO.nil ?_
 refine WX.next ?_
 refine WC.seq ?_
 refine WC.seq ?_
 refine WC.region ?_
 refine WO.v (R.move rfl) rfl ?_
 refine WO.v (R.move rfl) rfl ?_
 refine WO.v (R.eql rfl rfl) rfl ?_
 refine WO.nil ?_
 refine WX.next ?_
 refine WC.cond rfl (fun _=>?_) (fun q=>absurd rfl (of_decide_eq_false q))
 refine WC.seq ?_
 refine WC.region ?_
 refine WO.v (R.move rfl) rfl ?_
 refine WO.v (R.move rfl) rfl ?_
 refine WO.ve (happ _ _ _ _ rfl rfl) rfl fun v2 w2 hv2=>?_
 refine WO.v (R.assign rfl) rfl ?_
 refine WO.nil ?_
 refine WX.next ?_
 refine WC.ret ?_
 refine WX.gK ?_
 refine WX.tP rfl rfl ?_
 exact hv2
set_option maxRecDepth 100000 in
set_option maxHeartbeats 1000000 in
theorem ql {w W1:World} {g b n i c vc G:Nat} {ad:Addr} {cur vs ds:List Value} (hi:i<n) (hnc:n<=c) (hc:c<n+1) (hcm:c<=maxLen) (hG:n+1<=G) (hGm:G<=maxLen)
  (happ:∀ (F:Fr) (x y:Operand) (ty:TypeId),ev F x=some (.slice (some ⟨g,0*4,none⟩) i c)->ev F y=some (.int .i64 ((n+1 - i:Nat):Int))->aP Tryz.prog 95 F w (.call { callee:=.builtin .append,args:=#[x,y],argTypes:=#[22,3] }) ty (.slice (some ⟨b,0,none⟩) (n+1) G) W1)
  (hrow:W1.heap[b]? = some (.cells cur.toArray 44 (0,0))) (hcur:(n+1)*4<=cur.length) (hv:CellsAt W1 ad vs) (hvl:vs.length=4) (hd:CellsAt W1 ⟨g,i*4,none⟩ ds) (hgb:g≠b) (hgl:g<W1.heap.size) (hdl:ds.length=(n - i)*4)
  (h1v:∀ u ∈ vs,u.oneCell' = true) (h1d:∀ u ∈ ds,u.oneCell' = true) :
  g_ Tryz.prog 36 [.slice (some ⟨g,0,none⟩) n c,.int .i64 (i:Int),.slice (some ad) 1 vc].toArray w fun v w'=>v = .slice (some ⟨b,0,none⟩) (n+1) G/\∃ w1,Kp [] (W1.setRow b (cur.take (i*4)++vs++cur.drop (i*4+vs.length)).toArray) w1/\w' = w1.setRow b ((cur.take (i*4)++vs++cur.drop (i*4+vs.length)).take ((i+1)*4)++ds++(cur.take (i*4)++vs++cur.drop (i*4+vs.length)).drop ((i+1)*4+ds.length)).toArray:=by
 have hGm:G<=9223372036854775807:=hGm
 have hcm:c<=9223372036854775807:=hcm
 have hn1:vs.length=Nat.min 1 (n+1 - i)*4:=by rw [show Nat.min 1 (n+1 - i)=1 from Nat.min_eq_left (by omega),Nat.one_mul]; exact hvl
 have hn2:ds.length=Nat.min (n - i) (n+1 - (i+1))*4:=by rw [show Nat.min (n - i) (n+1 - (i+1))=n - i from Nat.min_eq_left (by omega)]; exact hdl
 refine g_.enter Tryz.func36 rfl rfl rfl rfl ?_
 refine WC.seq ?_
 refine WC.region ?_
 refine WO.v (R.assign rfl) rfl ?_
 refine WO.nil ?_
 refine WX.next ?_
 refine WC.seq ?_
 refine WC.region ?_
 refine WO.v (R.move rfl) rfl ?_
 refine WO.v (R.move rfl) rfl ?_
 refine WO.v (R.cj rfl rfl Tryz.underlying22 cm rfl (by omega)) rfl ?_
 refine WO.nil ?_
 refine WX.next ?_
 refine WC.seq ?_
 refine WC.region ?_
 refine WO.v (R.move rfl) rfl ?_
 refine WO.v (R.len rfl Tryz.underlying22) rfl ?_
 refine WO.v (R.assign rfl) rfl ?_
 refine WO.nil ?_
 refine WX.next ?_
 refine WC.seq ?_
 refine WC.seq ?_
 refine WC.region ?_
 refine WO.v (R.move rfl) rfl ?_
 refine WO.v (R.eql rfl rfl) rfl ?_
 refine WO.nil ?_
 refine WX.next ?_
 refine WC.cond rfl (fun q=>absurd (of_decide_eq_true q) (by omega)) (fun _=>?_)
 refine WC.skip ?_
 refine WX.next ?_
 refine WC.seq ?_
 refine WC.region ?_
 refine WO.v (R.move rfl) rfl ?_
 refine WO.v (R.len rfl Tryz.underlying22) rfl ?_
 refine WO.v (R.assign rfl) rfl ?_
 refine WO.nil ?_
 refine WX.next ?_
 refine WC.seq ?_
 refine WC.seq ?_
 refine WC.region ?_
 refine WO.v (R.move rfl) rfl ?_
 refine WO.v (R.move rfl) rfl ?_
 refine WO.v (R.eql rfl rfl) rfl ?_
 refine WO.nil ?_
 refine WX.next ?_
 refine WC.cond rfl (fun q=>absurd (of_decide_eq_true q) (by omega)) (fun _=>?_)
 refine WC.skip ?_
 refine WX.next ?_
 refine WC.seq ?_
 refine WC.seq ?_
 refine WC.region ?_
 refine WO.v (R.move rfl) rfl ?_
 refine WO.v (R.move rfl) rfl ?_
 refine WO.v (R.iN rfl rfl (by omega)) rfl ?_
 refine WO.v (R.move rfl) rfl ?_
 refine WO.v (R.Ex rfl Tryz.underlying22) rfl ?_
 refine WO.v (R.gtr rfl rfl) rfl ?_
 refine WO.nil ?_
 refine WX.next ?_
 refine WC.cond rfl (fun _=>?_) (fun q=>absurd (by omega) (of_decide_eq_false q))
 refine WC.seq ?_
 refine WC.region ?_
 refine WO.v (R.move rfl) rfl ?_
 refine WO.v (R.move rfl) rfl ?_
 refine WO.v (R.kn rfl rfl Tryz.underlying22 cm (dy (i:=0) (by omega)) (by omega)) rfl ?_
 refine WO.v (R.move rfl) rfl ?_
 refine WO.v (R.move rfl) rfl ?_
 refine WO.v (R.iN rfl rfl (by omega)) rfl ?_
 refine WO.v (R.move rfl) rfl ?_
 refine WO.v (R.IV rfl rfl (by omega) (by omega)) rfl ?_
 refine WO.v (happ _ _ _ _ rfl rfl) rfl ?_
 refine WO.v (R.assign rfl) rfl ?_
 refine WO.nil ?_
 refine WX.next ?_
 refine WC.seq ?_
 refine WC.region ?_
 refine WO.v (R.move rfl) rfl ?_
 refine WO.v (R.move rfl) rfl ?_
 refine WO.v (R.cj rfl rfl Tryz.underlying22 cm (dy (by omega)) (by omega)) rfl ?_
 refine WO.v (R.move rfl) rfl ?_
 refine WO.v (R.lu rfl rfl Tryz.underlying22 cm hrow hn1 hv (by omega) h1v) rfl ?_
 refine WO.nil ?_
 refine WX.next ?_
 refine WC.seq ?_
 refine WC.oM gJ [.ex [] (.slice (some ⟨b,0,none⟩) (n+1) G),.ex [] (.int .i64 ((i:Nat):Int)),.ex [] (.int .i64 ((1:Nat):Int)),.ex [1,2] (.int .i64 ((i+1:Nat):Int)),.ex [0,3] (.slice (some ⟨b,(i+1)*4,none⟩) (n+1 - (i+1)) (G - (i+1))),.ex [] (.slice (some ⟨g,0,none⟩) n c),.ex [] (.int .i64 ((i:Nat):Int)),.ex [5,6] (.slice (some ⟨g,i*4,none⟩) (n - i) (c - i))] 8 (by kernel_rfl) ⟨fun _ _ _ h _=>h,fun _ _ _ h _=>h,fun _ _ _ h _=>h,fun _ _ _ h _=>h,fun _ _ _ h _=>h,fun _ _ _ h _=>h,fun _ _ _ h _=>h,fun _ _ _ h _=>h,trivial⟩ ⟨?_,?_,?_,?_,?_,?_,?_,?_,trivial⟩ ?_
 ·rintro vs wd kd ⟨-⟩
  refine WO.bu (fr':=[(9,.slice (some ⟨b,0,none⟩) (n+1) G)]) ⟨⟨_,rfl,rfl⟩,trivial⟩ ?_
  refine WO.v (R.move rfl) rfl ?_
  refine WO.nil ?_
  exact WX.aJ rfl rfl (Kp.refl _)
 ·rintro vs wd kd ⟨-⟩
  refine WO.bu (fr':=[(1,.int .i64 ((i:Nat):Int))]) ⟨⟨_,rfl,rfl⟩,trivial⟩ ?_
  refine WO.v (R.move rfl) rfl ?_
  refine WO.nil ?_
  exact WX.aJ rfl rfl (Kp.refl _)
 ·rintro vs wd kd ⟨-⟩
  refine WO.bu (fr':=[(7,.int .i64 ((1:Nat):Int))]) ⟨⟨_,rfl,rfl⟩,trivial⟩ ?_
  refine WO.v (R.move rfl) rfl ?_
  refine WO.nil ?_
  exact WX.aJ rfl rfl (Kp.refl _)
 ·rintro vs wd kd ⟨e1,e2,-⟩
  refine WO.bu (fr':=[(47,.int .i64 ((i:Nat):Int)),(48,.int .i64 ((1:Nat):Int))]) ⟨⟨_,rfl,e1⟩,⟨_,rfl,e2⟩,trivial⟩ ?_
  refine WO.v (R.iN rfl rfl (by omega)) rfl ?_
  refine WO.nil ?_
  exact WX.aJ rfl rfl (Kp.refl _)
 ·rintro vs wd kd ⟨e0,e3,-⟩
  refine WO.bu (fr':=[(46,.slice (some ⟨b,0,none⟩) (n+1) G),(49,.int .i64 ((i+1:Nat):Int))]) ⟨⟨_,rfl,e0⟩,⟨_,rfl,e3⟩,trivial⟩ ?_
  refine WO.v (R.cj rfl rfl Tryz.underlying22 cm (dy (by omega)) (by omega)) rfl ?_
  refine WO.nil ?_
  exact WX.aJ rfl rfl (Kp.refl _)
 ·rintro vs wd kd ⟨-⟩
  refine WO.bu (fr':=[(0,.slice (some ⟨g,0,none⟩) n c)]) ⟨⟨_,rfl,rfl⟩,trivial⟩ ?_
  refine WO.v (R.move rfl) rfl ?_
  refine WO.nil ?_
  exact WX.aJ rfl rfl (Kp.refl _)
 ·rintro vs wd kd ⟨-⟩
  refine WO.bu (fr':=[(1,.int .i64 ((i:Nat):Int))]) ⟨⟨_,rfl,rfl⟩,trivial⟩ ?_
  refine WO.v (R.move rfl) rfl ?_
  refine WO.nil ?_
  exact WX.aJ rfl rfl (Kp.refl _)
 ·rintro vs wd kd ⟨e5,e6,-⟩
  refine WO.bu (fr':=[(51,.slice (some ⟨g,0,none⟩) n c),(52,.int .i64 ((i:Nat):Int))]) ⟨⟨_,rfl,e5⟩,⟨_,rfl,e6⟩,trivial⟩ ?_
  refine WO.v (R.cj rfl rfl Tryz.underlying22 cm (dy (by omega)) (by omega)) rfl ?_
  refine WO.nil ?_
  exact WX.aJ rfl rfl (Kp.refl _)
 rintro vsx w1 k1 ⟨-,-,-,-,e4,-,-,e7,-⟩
 replace k1:Kp [] (W1.setRow b (cur.take (i*4)++vs++cur.drop (i*4+vs.length)).toArray) w1:=k1
 refine WO.bu (fr':=[(50,.slice (some ⟨b,(i+1)*4,none⟩) (n+1 - (i+1)) (G - (i+1))),(53,.slice (some ⟨g,i*4,none⟩) (n - i) (c - i)),(9,.slice (some ⟨b,0,none⟩) (n+1) G)]) ⟨⟨_,rfl,e4⟩,⟨_,rfl,e7⟩,⟨_,rfl,rfl⟩,trivial⟩ ?_
 have hb2:w1.heap[b]? = some (.cells (List.toArray (cur.take (i*4)++vs++cur.drop (i*4+vs.length))) 44 (0,0)):=by rw [k1.block b (by simpa using ba hrow) (by simp)]; exact setRow_heap W1 b _ _ 44 _ hrow
 have hd2:CellsAt w1 ⟨g,i*4,none⟩ ds:=(hd.kp (Kp.setRow W1 b _) hgl (by simpa using hgb.symm)).kp k1 (by simpa using hgl) (by simp)
 refine WO.v (R.lu rfl rfl Tryz.underlying22 cm hb2 hn2 hd2 (by simp only [List.length_append,List.length_take,List.length_drop]; omega) h1d) rfl ?_
 refine WO.nil ?_
 refine WX.next ?_
 refine WC.seq ?_
 refine WC.region ?_
 refine WO.v (R.move rfl) rfl ?_
 refine WO.v (R.assign rfl) rfl ?_
 refine WO.nil ?_
 refine WX.next ?_
 refine WC.ret ?_
 refine WX.gK ?_
 refine WX.tP rfl rfl ?_
 exact ⟨rfl,w1,k1,rfl⟩
set_option maxRecDepth 100000 in
set_option maxHeartbeats 1000000 in
theorem nS {w:World} {g n i c vc:Nat} {ad:Addr} {cur vs ds:List Value} {curA:Array Value} {tA:TypeId} {fA:Nat × Nat} (hi:i<n) (hc:n+1<=c) (hcm:c<=maxLen)
  (hrow:w.heap[g]? = some (.cells cur.toArray 44 (0,0))) (hcur:(n+1)*4<=cur.length) (hv:CellsAt w ad vs) (hvb:w.heap[ad.block]? = some (.cells curA tA fA)) (hvb0:curA.size≠0) (hne:ad.block≠g) (hvl:vs.length=4) (hd:CellsAt w ⟨g,i*4,none⟩ ds) (hdl:ds.length=(n - i)*4)
  (h1v:∀ u ∈ vs,u.oneCell' = true) (h1d:∀ u ∈ ds,u.oneCell' = true) :
  g_ Tryz.prog 36 [.slice (some ⟨g,0,none⟩) n c,.int .i64 (i:Int),.slice (some ad) 1 vc].toArray w fun v w'=>v = .slice (some ⟨g,0,none⟩) (n+1) c/\∃ w1,Kp [] w w1/\w' = (w1.setRow g (cur.take ((i+1)*4)++ds++cur.drop ((i+1)*4+ds.length)).toArray).setRow g ((cur.take ((i+1)*4)++ds++cur.drop ((i+1)*4+ds.length)).take (i*4)++vs++(cur.take ((i+1)*4)++ds++cur.drop ((i+1)*4+ds.length)).drop (i*4+vs.length)).toArray:=by
 have hcm:c<=9223372036854775807:=hcm
 have hn1:vs.length=Nat.min 1 (n+1 - i)*4:=by rw [show Nat.min 1 (n+1 - i)=1 from Nat.min_eq_left (by omega),Nat.one_mul]; exact hvl
 have hn2:ds.length=Nat.min (n+1 - i) (n+1 - (i+1))*4:=by rw [show Nat.min (n+1 - i) (n+1 - (i+1))=n+1 - (i+1) from Nat.min_eq_right (by omega),hdl]; congr 1; omega
 refine g_.enter Tryz.func36 rfl rfl rfl rfl ?_
 refine WC.seq ?_
 refine WC.region ?_
 refine WO.v (R.assign rfl) rfl ?_
 refine WO.nil ?_
 refine WX.next ?_
 refine WC.seq ?_
 refine WC.region ?_
 refine WO.v (R.move rfl) rfl ?_
 refine WO.v (R.move rfl) rfl ?_
 refine WO.v (R.cj rfl rfl Tryz.underlying22 cm rfl (by omega)) rfl ?_
 refine WO.nil ?_
 refine WX.next ?_
 refine WC.seq ?_
 refine WC.region ?_
 refine WO.v (R.move rfl) rfl ?_
 refine WO.v (R.len rfl Tryz.underlying22) rfl ?_
 refine WO.v (R.assign rfl) rfl ?_
 refine WO.nil ?_
 refine WX.next ?_
 refine WC.seq ?_
 refine WC.seq ?_
 refine WC.region ?_
 refine WO.v (R.move rfl) rfl ?_
 refine WO.v (R.eql rfl rfl) rfl ?_
 refine WO.nil ?_
 refine WX.next ?_
 refine WC.cond rfl (fun q=>absurd (of_decide_eq_true q) (by omega)) (fun _=>?_)
 refine WC.skip ?_
 refine WX.next ?_
 refine WC.seq ?_
 refine WC.region ?_
 refine WO.v (R.move rfl) rfl ?_
 refine WO.v (R.len rfl Tryz.underlying22) rfl ?_
 refine WO.v (R.assign rfl) rfl ?_
 refine WO.nil ?_
 refine WX.next ?_
 refine WC.seq ?_
 refine WC.seq ?_
 refine WC.region ?_
 refine WO.v (R.move rfl) rfl ?_
 refine WO.v (R.move rfl) rfl ?_
 refine WO.v (R.eql rfl rfl) rfl ?_
 refine WO.nil ?_
 refine WX.next ?_
 refine WC.cond rfl (fun q=>absurd (of_decide_eq_true q) (by omega)) (fun _=>?_)
 refine WC.skip ?_
 refine WX.next ?_
 refine WC.seq ?_
 refine WC.seq ?_
 refine WC.region ?_
 refine WO.v (R.move rfl) rfl ?_
 refine WO.v (R.move rfl) rfl ?_
 refine WO.v (R.iN rfl rfl (by omega)) rfl ?_
 refine WO.v (R.move rfl) rfl ?_
 refine WO.v (R.Ex rfl Tryz.underlying22) rfl ?_
 refine WO.v (R.gtr rfl rfl) rfl ?_
 refine WO.nil ?_
 refine WX.next ?_
 refine WC.cond rfl (fun q=>absurd (of_decide_eq_true q) (by omega)) (fun _=>?_)
 refine WC.skip ?_
 refine WX.next ?_
 refine WC.seq ?_
 refine WC.region ?_
 refine WO.v (R.move rfl) rfl ?_
 refine WO.v (R.move rfl) rfl ?_
 refine WO.v (R.move rfl) rfl ?_
 refine WO.v (R.iN rfl rfl (by omega)) rfl ?_
 refine WO.v (R.kn rfl rfl Tryz.underlying22 cm (dy (i:=0) (by omega)) (by omega)) rfl ?_
 refine WO.v (R.assign rfl) rfl ?_
 refine WO.nil ?_
 refine WX.next ?_
 refine WC.seq ?_
 refine WC.seq ?_
 refine WC.region ?_
 refine WO.v (R.move rfl) rfl ?_
 refine WO.v (R.move rfl) rfl ?_
 refine WO.v (R.move rfl) rfl ?_
 refine WO.v (R.move rfl) rfl ?_
 refine WO.v (R.iN rfl rfl (by omega)) rfl ?_
 refine WO.v (R.cj rfl rfl Tryz.underlying22 cm (dy (by omega)) (by omega)) rfl ?_
 refine WO.v (R.LX (tS:=22) (tR:=4) Tryz.func87 rfl rfl (by kernel_rfl) (by kernel_rfl) Tryz.underlying22 cm hne hvb hvb0 hrow rfl rfl) rfl ?_
 refine WO.v (R.not rfl) rfl ?_
 refine WO.nil ?_
 refine WX.next ?_
 refine WC.Au rfl ?_
 refine WC.seq ?_
 refine WC.oM gJ [.ex [] (.slice (some ⟨g,0,none⟩) (n+1) c),.ex [] (.int .i64 ((i:Nat):Int)),.ex [] (.int .i64 ((1:Nat):Int)),.ex [1,2] (.int .i64 ((i+1:Nat):Int)),.ex [0,3] (.slice (some ⟨g,(i+1)*4,none⟩) (n+1 - (i+1)) (c - (i+1))),.ex [] (.slice (some ⟨g,0,none⟩) (n+1) c),.ex [] (.int .i64 ((i:Nat):Int)),.ex [5,6] (.slice (some ⟨g,i*4,none⟩) (n+1 - i) (c - i))] 8 (by kernel_rfl) ⟨fun _ _ _ h _=>h,fun _ _ _ h _=>h,fun _ _ _ h _=>h,fun _ _ _ h _=>h,fun _ _ _ h _=>h,fun _ _ _ h _=>h,fun _ _ _ h _=>h,fun _ _ _ h _=>h,trivial⟩ ⟨?_,?_,?_,?_,?_,?_,?_,?_,trivial⟩ ?_
 ·rintro vs wd kd ⟨-⟩
  refine WO.bu (fr':=[(0,.slice (some ⟨g,0,none⟩) (n+1) c)]) ⟨⟨_,rfl,rfl⟩,trivial⟩ ?_
  refine WO.v (R.move rfl) rfl ?_
  refine WO.nil ?_
  exact WX.aJ rfl rfl (Kp.refl _)
 ·rintro vs wd kd ⟨-⟩
  refine WO.bu (fr':=[(1,.int .i64 ((i:Nat):Int))]) ⟨⟨_,rfl,rfl⟩,trivial⟩ ?_
  refine WO.v (R.move rfl) rfl ?_
  refine WO.nil ?_
  exact WX.aJ rfl rfl (Kp.refl _)
 ·rintro vs wd kd ⟨-⟩
  refine WO.bu (fr':=[(7,.int .i64 ((1:Nat):Int))]) ⟨⟨_,rfl,rfl⟩,trivial⟩ ?_
  refine WO.v (R.move rfl) rfl ?_
  refine WO.nil ?_
  exact WX.aJ rfl rfl (Kp.refl _)
 ·rintro vs wd kd ⟨e1,e2,-⟩
  refine WO.bu (fr':=[(70,.int .i64 ((i:Nat):Int)),(71,.int .i64 ((1:Nat):Int))]) ⟨⟨_,rfl,e1⟩,⟨_,rfl,e2⟩,trivial⟩ ?_
  refine WO.v (R.iN rfl rfl (by omega)) rfl ?_
  refine WO.nil ?_
  exact WX.aJ rfl rfl (Kp.refl _)
 ·rintro vs wd kd ⟨e0,e3,-⟩
  refine WO.bu (fr':=[(69,.slice (some ⟨g,0,none⟩) (n+1) c),(72,.int .i64 ((i+1:Nat):Int))]) ⟨⟨_,rfl,e0⟩,⟨_,rfl,e3⟩,trivial⟩ ?_
  refine WO.v (R.cj rfl rfl Tryz.underlying22 cm (dy (by omega)) (by omega)) rfl ?_
  refine WO.nil ?_
  exact WX.aJ rfl rfl (Kp.refl _)
 ·rintro vs wd kd ⟨-⟩
  refine WO.bu (fr':=[(0,.slice (some ⟨g,0,none⟩) (n+1) c)]) ⟨⟨_,rfl,rfl⟩,trivial⟩ ?_
  refine WO.v (R.move rfl) rfl ?_
  refine WO.nil ?_
  exact WX.aJ rfl rfl (Kp.refl _)
 ·rintro vs wd kd ⟨-⟩
  refine WO.bu (fr':=[(1,.int .i64 ((i:Nat):Int))]) ⟨⟨_,rfl,rfl⟩,trivial⟩ ?_
  refine WO.v (R.move rfl) rfl ?_
  refine WO.nil ?_
  exact WX.aJ rfl rfl (Kp.refl _)
 ·rintro vs wd kd ⟨e5,e6,-⟩
  refine WO.bu (fr':=[(74,.slice (some ⟨g,0,none⟩) (n+1) c),(75,.int .i64 ((i:Nat):Int))]) ⟨⟨_,rfl,e5⟩,⟨_,rfl,e6⟩,trivial⟩ ?_
  refine WO.v (R.cj rfl rfl Tryz.underlying22 cm (dy (by omega)) (by omega)) rfl ?_
  refine WO.nil ?_
  exact WX.aJ rfl rfl (Kp.refl _)
 rintro vsx w1 k1 ⟨-,-,-,-,e4,-,-,e7,-⟩
 replace k1:Kp [] w w1:=k1
 refine WO.bu (fr':=[(73,.slice (some ⟨g,(i+1)*4,none⟩) (n+1 - (i+1)) (c - (i+1))),(76,.slice (some ⟨g,i*4,none⟩) (n+1 - i) (c - i)),(0,.slice (some ⟨g,0,none⟩) (n+1) c),(1,.int .i64 ((i:Nat):Int)),(2,.slice (some ad) 1 vc)]) ⟨⟨_,rfl,e4⟩,⟨_,rfl,e7⟩,⟨_,rfl,rfl⟩,⟨_,rfl,rfl⟩,⟨_,rfl,rfl⟩,trivial⟩ ?_
 have hg1:w1.heap[g]? = some (.cells (List.toArray cur) 44 (0,0)):=by rw [k1.block g (ba hrow) (by simp)]; exact hrow
 refine WO.v (R.lu rfl rfl Tryz.underlying22 cm hg1 hn2 (hd.kp k1 (ba hrow) (by simp)) (by omega) h1d) rfl ?_
 refine WO.nil ?_
 refine WX.next ?_
 have hg2:(w1.setRow g (cur.take ((i+1)*4)++ds++cur.drop ((i+1)*4+ds.length)).toArray).heap[g]? = some (.cells (List.toArray (cur.take ((i+1)*4)++ds++cur.drop ((i+1)*4+ds.length))) 44 (0,0)):=setRow_heap w1 g _ _ 44 _ hg1
 have hv2:CellsAt (w1.setRow g (cur.take ((i+1)*4)++ds++cur.drop ((i+1)*4+ds.length)).toArray) ad vs:=(hv.kp k1 (ba hvb) (by simp)).kp (Kp.setRow w1 g _) (Nat.lt_of_lt_of_le (ba hvb) k1.size) (by simpa using fun h=>hne h.symm)
 refine WC.seq ?_
 refine WC.region ?_
 refine WO.v (R.move rfl) rfl ?_
 refine WO.v (R.move rfl) rfl ?_
 refine WO.v (R.cj rfl rfl Tryz.underlying22 cm (dy (by omega)) (by omega)) rfl ?_
 refine WO.v (R.move rfl) rfl ?_
 refine WO.v (R.lu rfl rfl Tryz.underlying22 cm hg2 hn1 hv2 (by simp only [List.length_append,List.length_take,List.length_drop]; omega) h1v) rfl ?_
 refine WO.nil ?_
 refine WX.next ?_
 refine WC.seq ?_
 refine WC.region ?_
 refine WO.v (R.move rfl) rfl ?_
 refine WO.v (R.assign rfl) rfl ?_
 refine WO.nil ?_
 refine WX.next ?_
 refine WC.ret ?_
 refine WX.gK ?_
 refine WX.tP rfl rfl ?_
 exact ⟨rfl,w1,k1,rfl⟩
theorem qX {G:Gl} {ρ:List RE} {H:AH} {w:World} (hs:G.shp=aq aE) (hR:Rep G ρ H w) {l m:List (den (.nm .sess))} (hH:getO H 0 = .row 44 (.nm .sess) l) (hl:l.length<1048576) {i:Nat} (hi:i<=l.length) {v0:Value} (h0:Rd (cx G ρ w) ρ (.own 0) v0)
  {ad:Addr} {k:Nat} {cys:List Value} {bAV:AV} (hm:m.length=1) (hb:Rd (cx G ρ w) ρ bAV (.slice (some ad) 1 k)) (hbv:(bAV.vw H).fj (.nm .sess)=some m) (hv:CellsAt w ad cys) (hvl:cys.length=4) (h1v:∀ u ∈ cys,u.oneCell' = true) (hp:Pds (cx G ρ w) (m.flatMap (cellsOf (.nm .sess))) cys)
  (hne:∀ g c n z,ρ[0]? = some (.row g c n z)->ad.block≠g) {curA:Array Value} {tA:TypeId} {fA:Nat × Nat} (hvb:w.heap[ad.block]? = some (.cells curA tA fA)) (hvb0:curA.size≠0) :
  g_ Tryz.prog 36 [v0,.int .i64 (i:Int),.slice (some ad) 1 k].toArray w fun v w'=>∃ ρ',Stp (xI 0) ρ w ρ' w' /\ Rep G ρ' ((eO (AV.kill 0) H).set 0 (.row 44 (.nm .sess) (l.take i++m++l.drop i))) w' /\ Rd (cx G ρ' w') ρ' (.own 0) v:=by
 have hT:bp Tryz.prog G.shp aE:=hs ▸ f_
 obtain ⟨hshp,hlen⟩:=c_ hR hH
 have hl64:l.length<=9223372036854775807:=by omega
 have hin:((l.length:Nat):Int)<=9223372036854775807:=by omega
 by_cases hie:i=l.length
 ·subst hie
  have hc:∃ A c,v0 = .slice A l.length c:=by
   rcases h0 with ⟨g,cap,len,z,h1,rfl⟩ | ⟨h1,a,rfl⟩
   ·rcases bt hR hH with ⟨h2,_⟩ | ⟨g',cap',cells,sp,h2,_⟩
    ·rw [h1] at h2; cases h2
    ·rw [h1] at h2; cases h2; exact ⟨_,_,rfl⟩
   ·rcases bt hR hH with ⟨_,h2⟩ | ⟨g',cap',cells,sp,h2,_⟩
    ·subst h2; exact ⟨_,_,rfl⟩
    ·rw [h1] at h2; cases h2
  obtain ⟨A,c,rfl⟩:=hc
  refine sq fun F x y ty hx hy=>?_
  have happ:fQ aE (xI 0) ([]:AFr) H 22 (.own 0) bAV=some ⟨one (.own 0),[],(eO (AV.kill 0) H).set 0 (.row 44 (.nm .sess) (l++m)),[(l.length+m.length)*(Sh.nm NT.sess).bytes<=140737488355328],[]⟩:=by
   unfold fQ
   rw [show bw aE 22=some ⟨.sl 44 (some (.nm .sess)),1,[.em true]⟩ from by kernel_rfl]
   simp only [hbv,hH]
   rfl
  obtain ⟨v,w',h1,ρ',h2,h3,_,h5,_⟩:=fS (P:=Tryz.prog) (n:=95) (F:=[]) (ty:=ty) (fr:=[]) (x:=.const (.slice A l.length c)) (y:=.const (.slice (some ad) 1 k)) hT hR .nil happ (by
   intro p hp
   rw [List.mem_singleton] at hp; subst hp
   show (l.length+m.length)*32<=_
   omega) h0 hb rfl rfl
  refine ⟨v,w',R.wj h1 hx hy,ρ',h2,?_,h5⟩
  rw [List.take_length,List.drop_length,List.append_nil]
  exact h3
 ·have hlt:i<l.length:=by omega
  rcases bt hR hH with ⟨_,h2⟩ | ⟨g,cap,cells,sp,hρ,hg,hpd,hsz,hcap,hmax⟩
  ·subst h2; simp at hlt
  obtain ⟨hnb,hil,hiH⟩:=jF hR hH
  have hv0:v0 = .slice (some ⟨g,0,none⟩) l.length cap:=by
   rcases h0 with ⟨g',cap',len,z,h1,rfl⟩ | ⟨h1,a,rfl⟩
   ·rw [hρ] at h1; cases h1; rfl
   ·rw [hρ] at h1; cases h1
  subst hv0
  have hz:(Sh.nm NT.sess).size=4:=rfl
  have hby:(Sh.nm NT.sess).bytes=32:=rfl
  have hcl:cells.length=l.length*4:=by rw [<- hpd.length,bM,hz]
  rw [hz,List.length_append] at hsz
  have hone:∀ u ∈ cells.drop (i*4),u.oneCell' = true:=fun u hu=>hpd.zl u (List.mem_of_mem_drop hu)
  have hd:CellsAt w ⟨g,i*4,none⟩ (cells.drop (i*4)):=by
   have:=(bY hg).shift (i*4)
   rwa [add_lit,Nat.zero_add] at this
  have hdl:(cells.drop (i*4)).length=(l.length - i)*4:=by rw [List.length_drop,hcl]; omega
  have hgl:=ba hg
  have hzl:(l.take i++m++l.drop i).length=l.length+1:=by
   rw [List.length_append,List.length_append,List.length_take,List.length_drop,hm]; omega
  have hnew:∀ {c:Cx},(cx G ρ w).le c->Pds c ((l.take i++m++l.drop i).flatMap (cellsOf (.nm .sess))) (cells.take (i*4)++cys++cells.drop (i*4)):=fun {c} hle=>by
   rw [List.flatMap_append,List.flatMap_append]
   exact (((bI hpd i).append hp).append (bT hpd i)).carry hle
  have hnl:(cells.take (i*4)++cys++cells.drop (i*4)).length=(l.length+1)*4:=by
   rw [List.length_append,List.length_append,List.length_take,List.length_drop,hcl,hvl]; omega
  have hbig:(l.take i++m++l.drop i).length*(Sh.nm NT.sess).bytes<=140737488355328:=by rw [hzl,hby]; omega
  -- what is shown of any way
  have fin:∀ (S:List Nat) (g2 cap2:Nat) (sp2:List Value) (w':World),Kp S w w' -> (∀ b ∈ S,b=g)->(g2=g\/w.heap.size<=g2)->w'.heap[g2]? = some (.cells (List.toArray (cells.take (i*4)++cys++cells.drop (i*4)++sp2)) 44 (0,0))->(l.length+1)*4+sp2.length=cap2*4->l.length+1<=cap2->cap2<=maxLen ->
    ∃ ρ',Stp (xI 0) ρ w ρ' w' /\ Rep G ρ' ((eO (AV.kill 0) H).set 0 (.row 44 (.nm .sess) (l.take i++m++l.drop i))) w' /\ Rd (cx G ρ' w') ρ' (.own 0) (.slice (some ⟨g2,0,none⟩) (l.length+1) cap2):=by
   intro S g2 cap2 sp2 w' hk hS hg2 hh hlen2 hle2 hmax2
   obtain ⟨k1,k2,_⟩:=jh (ro:=xI 0) (s':=.nm .sess) (e':=44) (zs:=l.take i++m++l.drop i) hR hH ⟨rfl,rfl⟩ hk (fun b hb=>⟨_,hρ,by rw [hS b hb]; rfl⟩) (r':=.row g2 cap2 (l.take i++m++l.drop i).length (Sh.nm NT.sess).size) (fun b hb=>by
    cases hb
    rcases hg2 with rfl | hg2
    ·exact .inl ⟨_,hρ,rfl⟩
    ·exact .inr ⟨hg2,ba hh⟩) (fun hle=>⟨hshp,hbig,.inr ⟨g2,cap2,_,sp2,rfl,hh,hnew hle,by rw [List.length_append,hnl,hz]; exact hlen2,by rw [hzl]; exact hle2,hmax2⟩⟩)
   exact ⟨_,k1,k2,.inl ⟨g2,cap2,_,_,List.getElem?_set_self hil,by rw [hzl]⟩⟩
  have eo:(i+1)*4=i*4+4:=by omega
  by_cases hroom:l.length+1<=cap
  ·refine (nS hlt hroom hmax hg (by rw [List.length_append]; omega) hv hvb hvb0 (hne _ _ _ _ hρ) hvl hd hdl h1v hone).mono fun v w' ⟨e1,w1,k1,e2⟩=>?_
   subst e1; subst e2
   rw [eo,F_ (by omega) hvl]
   have hk:Kp [g] w ((w1.setRow g ((cells++sp).take (i*4+4)++cells.drop (i*4)++(cells++sp).drop (i*4+4+(cells.drop (i*4)).length)).toArray).setRow g (cells.take (i*4)++cys++cells.drop (i*4)++sp.drop 4).toArray):=((k1.sub (by simp)).step (Kp.setRow w1 g _) (by simp)).step (Kp.setRow _ g _) (by simp)
   have hg1:w1.heap[g]? = some (.cells (List.toArray (cells++sp)) 44 (0,0)):=by rw [k1.block g hgl (by simp)]; exact hg
   exact fin [g] g cap (sp.drop 4) _ hk (by simp) (.inl rfl) (setRow_heap _ g _ _ 44 _ (setRow_heap w1 g _ _ 44 _ hg1)) (by rw [List.length_drop]; omega) hroom hmax
  ·obtain ⟨ti,hi0,hz0,hz1,hz2⟩:=info_parts Am
   have eik:i+(l.length+1 - i)=l.length+1:=by omega
   have hge:=grownCap_ge w (l.length+1) cap 44
   have hgm:=grownCap_le_maxLen w (l.length+1) cap 44 (by simp [maxLen]; omega)
   have hold:(Builtin.firstCells ti.size i (.slice (some ⟨g,0*4,none⟩) i cap)).run Tryz.prog w.drew = .ok (cells.take (i*4)).toArray w.drew:=by
    have h:=run_loadCells_list (P:=Tryz.prog) w.drew ⟨g,0*4,none⟩ (cells.take (i*4)) (by rw [Nat.zero_mul]; exact (bY hg).take _)
    rw [List.length_take,Nat.min_eq_left (by omega)] at h
    rw [hz1]; exact h
   have happ:∀ (F:Fr) (x y:Operand) (ty:TypeId),ev F x=some (.slice (some ⟨g,0*4,none⟩) i cap)->ev F y=some (.int .i64 ((l.length+1 - i:Nat):Int))->aP Tryz.prog 95 F w (.call { callee:=.builtin .append,args:=#[x,y],argTypes:=#[22,3] }) ty (.slice (some ⟨w.heap.size,0,none⟩) (l.length+1) (grownCap w (l.length+1) cap 44)) (w.drew.alloc (.cells (List.toArray (cells.take (i*4)++((Builtin.zeroCells (Value.agg #[.int .i64 0,.int .i64 0,.int .i64 0,.int .i64 0]).cells (l.length+1 - i)).toList++(Builtin.zeroCells (Value.agg #[.int .i64 0,.int .i64 0,.int .i64 0,.int .i64 0]).cells (grownCap w (l.length+1) cap 44 - (l.length+1))).toList))) 44)):=fun F x y ty hx hy=>by
    have h:=R.IY (P:=Tryz.prog) (n:=95) (ty:=ty) hx hy Tryz.underlying22 Tryz.underlying3 hi0 hz0 hold (by omega) (by rw [hz1]; decide) (by omega) (by omega) (by rw [hz2]; omega) (by rw [hz2,eik]; exact growslice_fits (by omega) (by omega))
    rw [eik] at h
    have e:∀ (a:List Value) (b c:Array Value),a.toArray++b++c=(a++(b.toList++c.toList)).toArray:=fun a b c=>by apply Array.ext'; simp
    rw [e] at h
    exact h
   have hcurl:(cells.take (i*4)++((Builtin.zeroCells (Value.agg #[.int .i64 0,.int .i64 0,.int .i64 0,.int .i64 0]).cells (l.length+1 - i)).toList++(Builtin.zeroCells (Value.agg #[.int .i64 0,.int .i64 0,.int .i64 0,.int .i64 0]).cells (grownCap w (l.length+1) cap 44 - (l.length+1))).toList)).length=grownCap w (l.length+1) cap 44*4:=by
    rw [List.length_append,List.length_append,List.length_take,ml,ml]
    show min _ _+((l.length+1 - i)*4+(grownCap w (l.length+1) cap 44 - (l.length+1))*4)=_
    omega
   have htk:(cells.take (i*4)++((Builtin.zeroCells (Value.agg #[.int .i64 0,.int .i64 0,.int .i64 0,.int .i64 0]).cells (l.length+1 - i)).toList++(Builtin.zeroCells (Value.agg #[.int .i64 0,.int .i64 0,.int .i64 0,.int .i64 0]).cells (grownCap w (l.length+1) cap 44 - (l.length+1))).toList)).take (i*4)=cells.take (i*4):=List.take_left' (by rw [List.length_take]; omega)
   generalize grownCap w (l.length+1) cap 44=GC at *
   generalize cells.take (i*4)++((Builtin.zeroCells (Value.agg #[.int .i64 0,.int .i64 0,.int .i64 0,.int .i64 0]).cells (l.length+1 - i)).toList++(Builtin.zeroCells (Value.agg #[.int .i64 0,.int .i64 0,.int .i64 0,.int .i64 0]).cells (GC - (l.length+1))).toList)=cur at *
   have hK1:Kp [] w (w.drew.alloc (.cells (List.toArray cur) 44)):=((Kp.refl w).drew).step (Kp.alloc w.drew _) (by simp)
   have hrow:(w.drew.alloc (.cells (List.toArray cur) 44)).heap[w.heap.size]? = some (.cells (List.toArray cur) 44 (0,0)):=heap_alloc_new w.drew _
   generalize w.drew.alloc (.cells (List.toArray cur) 44)=W1 at *
   refine (ql hlt hcap (by omega) hmax hge hgm happ hrow (by omega) (hv.kp hK1 (ba hvb) (by simp)) hvl (hd.kp hK1 hgl (by simp)) (by omega) (Nat.lt_of_lt_of_le hgl hK1.size) hdl h1v hone).mono fun v w' ⟨e1,w1,k1,e2⟩=>?_
   subst e1; subst e2
   rw [eo,FG (cells:=cells) (by omega) hvl htk]
   have hs1:∀ b ∈ [w.heap.size],b ∈ ([]:List Nat)\/w.heap.size<=b:=fun b hb=>.inr (by rw [List.mem_singleton] at hb; omega)
   have hk:Kp [] w (w1.setRow w.heap.size (cells.take (i*4)++cys++cells.drop (i*4)++cur.drop (i*4+4+(cells.drop (i*4)).length)).toArray):=((hK1.step (Kp.setRow W1 w.heap.size _) hs1).step k1 (by simp)).step (Kp.setRow w1 w.heap.size _) hs1
   have hg1:=(k1.block w.heap.size (by simpa using ba hrow) (by simp)).trans (setRow_heap W1 w.heap.size _ (cur.take (i*4)++cys++cur.drop (i*4+cys.length)).toArray 44 _ hrow)
   exact fin [] w.heap.size GC _ _ hk (by simp) (.inr (Nat.le_refl _)) (setRow_heap w1 w.heap.size _ _ 44 _ hg1) (by rw [List.length_drop]; omega) hge hgm
theorem qD (i:Int) (l m:List (den (.nm .sess))) (h:0<=i/\i<=(l.length:Int)) (hl:l.length<1048576) (hm:m.length=1):Sat Tryz.prog (aq aE) 36 [.c (.own 0),.c (.int i),.c (.own 1)] [.row 44 (.nm .sess) l,.row 44 (.nm .sess) m] ⟨[0<=i/\i<=(l.length:Int),l.length<1048576,m.length=1],[.c (.own 0)],some [.row 44 (.nm .sess) (l.take i.toNat++m++l.drop i.toNat),.row 44 (.nm .sess) m],false⟩:=by
 refine ⟨⟨_,Tryz.func36,by decide,rfl⟩,fun G ρ w vs hs hR hvs=>?_⟩
 obtain ⟨i,rfl⟩:=Int.eq_ofNat_of_zero_le h.1
 cases hvs with | cons h0 hvs=>
 cases hvs with | cons h1 hvs=>
 cases hvs with | cons h2 hvs=>
 cases hvs
 have h1:Pd (cx G ρ w) (.int (i:Int)) _:=h1
 cases h1
 have h0:Rd (cx G ρ w) ρ (.own 0) _:=h0
 have h2:Rd (cx G ρ w) ρ (.own 1) _:=h2
 have hH:getO [AO.row 44 (.nm .sess) l,.row 44 (.nm .sess) m] 0 = .row 44 (.nm .sess) l:=rfl
 have hbv:(AV.vw [AO.row 44 (.nm .sess) l,.row 44 (.nm .sess) m] (.own 1)).fj (.nm .sess)=some m:=by simp [AV.vw,AV.fj,getO]
 obtain ⟨A,k,cys,rfl,s1,s2,s3,s4⟩:=mV hR hbv h2
 rw [hm] at h2 s1 s3
 rw [hm]
 obtain ⟨ad,rfl,s5⟩:∃ ad,A=some ad/\CellsAt w ad cys:=s3.resolve_left (by decide)
 have hz:(Sh.nm NT.sess).size=4:=rfl
 rw [hz] at s1
 obtain ⟨u,hu⟩:∃ u,cys[0]? = some u:=⟨_,List.getElem?_eq_getElem (by omega)⟩
 obtain ⟨cur,t,f,hc,hc0⟩:=oT (s5 0 u hu)
 have hne:∀ g c n z,ρ[0]? = some (.row g c n z)->ad.block≠g:=fun g c n z hg e=>by
  rcases h2 with ⟨g',cap',len,z',h3,h4⟩ | ⟨h3,a,h4⟩
  ·cases h4
   have:=hR.inj 0 1 _ _ g hg h3 rfl (by rw [<- e]; rfl)
   omega
  ·cases h4
 rw [fb] at hc
 refine (qX hs hR hH hl (by omega) h0 hm h2 hbv s5 s1 s2 s4 hne hc hc0).mono fun v w' ⟨ρ',k1,k2,k3⟩=>?_
 exact ⟨[v],rfl,ρ',k2,k1.ext,k1.bx,.cons k3 .nil,fun hb=>by cases hb⟩
theorem cn:(Tryz.prog.info? 77).map (·.size)=some 2:=by kernel_rfl
theorem vu:(Tryz.prog.info? 77).map (fun i=>(i.zero,i.size,i.bytes))=some (some (.agg #[.int .i64 0,.int .i64 0]),2,16):=by kernel_rfl
set_option maxRecDepth 100000 in
set_option maxHeartbeats 1000000 in
theorem uz {w:World} {n c vc:Nat} {A:Option Addr} {B:Option Addr} {φ:Value->World->Prop} (happ:∀ (F:Fr) (x y:Operand) (ty:TypeId),ev F x=some (.slice A n c)->ev F y=some (.slice B 1 vc)->∃ v2 w2,aP Tryz.prog 95 F w (.call { callee:=.builtin .append,args:=#[x,y],argTypes:=#[23,23] }) ty v2 w2/\φ v2 w2) :
  g_ Tryz.prog 92 [.slice A n c,.int .i64 (n:Int),.slice B 1 vc].toArray w φ:=by
 refine g_.enter Tryz.func92 rfl rfl rfl rfl ?_
 refine WC.seq ?_
 refine WC.region ?_
 refine WO.v (R.assign rfl) rfl ?_
 refine WO.nil ?_
 refine WX.next ?_
 refine WC.seq ?_
 refine WC.region ?_
 refine WO.v (R.move rfl) rfl ?_
 refine WO.v (R.move rfl) rfl ?_
 refine WO.v (R.cj rfl rfl Tryz.underlying23 cn rfl (by omega)) rfl ?_
 refine WO.nil ?_
 refine WX.next ?_
 refine WC.seq ?_
 refine WC.region ?_
 refine WO.v (R.move rfl) rfl ?_
 refine WO.v (R.len rfl Tryz.underlying23) rfl ?_
 refine WO.v (R.assign rfl) rfl ?_
 refine WO.nil ?_
 refine WX.next ?_
 refine WC.seq ?_
 refine WC.seq ?_
 refine WC.region ?_
 refine WO.v (R.move rfl) rfl ?_
 refine WO.v (R.eql rfl rfl) rfl ?_
 refine WO.nil ?_
 refine WX.next ?_
 refine WC.cond rfl (fun q=>absurd (of_decide_eq_true q) (by omega)) (fun _=>?_)
 refine WC.skip ?_
 refine WX.next ?_
 refine WC.seq ?_
 refine WC.region ?_
 refine WO.v (R.move rfl) rfl ?_
 refine WO.v (R.len rfl Tryz.underlying23) rfl ?_
 refine WO.v (R.assign rfl) rfl ?_
 refine WO.nil ?_
 refine WX.next ?_
 refine WC.seq ?_
 refine WC.seq ?_
 refine WC.region ?_
 refine WO.v (R.move rfl) rfl ?_
 refine WO.v (R.move rfl) rfl ?_
 refine WO.v (R.eql rfl rfl) rfl ?_
 refine WO.nil ?_
 refine WX.next ?_
 refine WC.cond rfl (fun _=>?_) (fun q=>absurd rfl (of_decide_eq_false q))
 refine WC.seq ?_
 refine WC.region ?_
 refine WO.v (R.move rfl) rfl ?_
 refine WO.v (R.move rfl) rfl ?_
 refine WO.ve (happ _ _ _ _ rfl rfl) rfl fun v2 w2 hv2=>?_
 refine WO.v (R.assign rfl) rfl ?_
 refine WO.nil ?_
 refine WX.next ?_
 refine WC.ret ?_
 refine WX.gK ?_
 refine WX.tP rfl rfl ?_
 exact hv2
set_option maxRecDepth 100000 in
set_option maxHeartbeats 1000000 in
theorem qV {w W1:World} {g b n i c vc G:Nat} {ad:Addr} {cur vs ds:List Value} (hi:i<n) (hnc:n<=c) (hc:c<n+1) (hcm:c<=maxLen) (hG:n+1<=G) (hGm:G<=maxLen)
  (happ:∀ (F:Fr) (x y:Operand) (ty:TypeId),ev F x=some (.slice (some ⟨g,0*2,none⟩) i c)->ev F y=some (.int .i64 ((n+1 - i:Nat):Int))->aP Tryz.prog 95 F w (.call { callee:=.builtin .append,args:=#[x,y],argTypes:=#[23,3] }) ty (.slice (some ⟨b,0,none⟩) (n+1) G) W1)
  (hrow:W1.heap[b]? = some (.cells cur.toArray 77 (0,0))) (hcur:(n+1)*2<=cur.length) (hv:CellsAt W1 ad vs) (hvl:vs.length=2) (hd:CellsAt W1 ⟨g,i*2,none⟩ ds) (hgb:g≠b) (hgl:g<W1.heap.size) (hdl:ds.length=(n - i)*2)
  (h1v:∀ u ∈ vs,u.oneCell' = true) (h1d:∀ u ∈ ds,u.oneCell' = true) :
  g_ Tryz.prog 92 [.slice (some ⟨g,0,none⟩) n c,.int .i64 (i:Int),.slice (some ad) 1 vc].toArray w fun v w'=>v = .slice (some ⟨b,0,none⟩) (n+1) G/\∃ w1,Kp [] (W1.setRow b (cur.take (i*2)++vs++cur.drop (i*2+vs.length)).toArray) w1/\w' = w1.setRow b ((cur.take (i*2)++vs++cur.drop (i*2+vs.length)).take ((i+1)*2)++ds++(cur.take (i*2)++vs++cur.drop (i*2+vs.length)).drop ((i+1)*2+ds.length)).toArray:=by
 have hGm:G<=9223372036854775807:=hGm
 have hcm:c<=9223372036854775807:=hcm
 have hn1:vs.length=Nat.min 1 (n+1 - i)*2:=by rw [show Nat.min 1 (n+1 - i)=1 from Nat.min_eq_left (by omega),Nat.one_mul]; exact hvl
 have hn2:ds.length=Nat.min (n - i) (n+1 - (i+1))*2:=by rw [show Nat.min (n - i) (n+1 - (i+1))=n - i from Nat.min_eq_left (by omega)]; exact hdl
 refine g_.enter Tryz.func92 rfl rfl rfl rfl ?_
 refine WC.seq ?_
 refine WC.region ?_
 refine WO.v (R.assign rfl) rfl ?_
 refine WO.nil ?_
 refine WX.next ?_
 refine WC.seq ?_
 refine WC.region ?_
 refine WO.v (R.move rfl) rfl ?_
 refine WO.v (R.move rfl) rfl ?_
 refine WO.v (R.cj rfl rfl Tryz.underlying23 cn rfl (by omega)) rfl ?_
 refine WO.nil ?_
 refine WX.next ?_
 refine WC.seq ?_
 refine WC.region ?_
 refine WO.v (R.move rfl) rfl ?_
 refine WO.v (R.len rfl Tryz.underlying23) rfl ?_
 refine WO.v (R.assign rfl) rfl ?_
 refine WO.nil ?_
 refine WX.next ?_
 refine WC.seq ?_
 refine WC.seq ?_
 refine WC.region ?_
 refine WO.v (R.move rfl) rfl ?_
 refine WO.v (R.eql rfl rfl) rfl ?_
 refine WO.nil ?_
 refine WX.next ?_
 refine WC.cond rfl (fun q=>absurd (of_decide_eq_true q) (by omega)) (fun _=>?_)
 refine WC.skip ?_
 refine WX.next ?_
 refine WC.seq ?_
 refine WC.region ?_
 refine WO.v (R.move rfl) rfl ?_
 refine WO.v (R.len rfl Tryz.underlying23) rfl ?_
 refine WO.v (R.assign rfl) rfl ?_
 refine WO.nil ?_
 refine WX.next ?_
 refine WC.seq ?_
 refine WC.seq ?_
 refine WC.region ?_
 refine WO.v (R.move rfl) rfl ?_
 refine WO.v (R.move rfl) rfl ?_
 refine WO.v (R.eql rfl rfl) rfl ?_
 refine WO.nil ?_
 refine WX.next ?_
 refine WC.cond rfl (fun q=>absurd (of_decide_eq_true q) (by omega)) (fun _=>?_)
 refine WC.skip ?_
 refine WX.next ?_
 refine WC.seq ?_
 refine WC.seq ?_
 refine WC.region ?_
 refine WO.v (R.move rfl) rfl ?_
 refine WO.v (R.move rfl) rfl ?_
 refine WO.v (R.iN rfl rfl (by omega)) rfl ?_
 refine WO.v (R.move rfl) rfl ?_
 refine WO.v (R.Ex rfl Tryz.underlying23) rfl ?_
 refine WO.v (R.gtr rfl rfl) rfl ?_
 refine WO.nil ?_
 refine WX.next ?_
 refine WC.cond rfl (fun _=>?_) (fun q=>absurd (by omega) (of_decide_eq_false q))
 refine WC.seq ?_
 refine WC.region ?_
 refine WO.v (R.move rfl) rfl ?_
 refine WO.v (R.move rfl) rfl ?_
 refine WO.v (R.kn rfl rfl Tryz.underlying23 cn (dy (i:=0) (by omega)) (by omega)) rfl ?_
 refine WO.v (R.move rfl) rfl ?_
 refine WO.v (R.move rfl) rfl ?_
 refine WO.v (R.iN rfl rfl (by omega)) rfl ?_
 refine WO.v (R.move rfl) rfl ?_
 refine WO.v (R.IV rfl rfl (by omega) (by omega)) rfl ?_
 refine WO.v (happ _ _ _ _ rfl rfl) rfl ?_
 refine WO.v (R.assign rfl) rfl ?_
 refine WO.nil ?_
 refine WX.next ?_
 refine WC.seq ?_
 refine WC.region ?_
 refine WO.v (R.move rfl) rfl ?_
 refine WO.v (R.move rfl) rfl ?_
 refine WO.v (R.cj rfl rfl Tryz.underlying23 cn (dy (by omega)) (by omega)) rfl ?_
 refine WO.v (R.move rfl) rfl ?_
 refine WO.v (R.lu rfl rfl Tryz.underlying23 cn hrow hn1 hv (by omega) h1v) rfl ?_
 refine WO.nil ?_
 refine WX.next ?_
 refine WC.seq ?_
 refine WC.oM gJ [.ex [] (.slice (some ⟨b,0,none⟩) (n+1) G),.ex [] (.int .i64 ((i:Nat):Int)),.ex [] (.int .i64 ((1:Nat):Int)),.ex [1,2] (.int .i64 ((i+1:Nat):Int)),.ex [0,3] (.slice (some ⟨b,(i+1)*2,none⟩) (n+1 - (i+1)) (G - (i+1))),.ex [] (.slice (some ⟨g,0,none⟩) n c),.ex [] (.int .i64 ((i:Nat):Int)),.ex [5,6] (.slice (some ⟨g,i*2,none⟩) (n - i) (c - i))] 8 (by kernel_rfl) ⟨fun _ _ _ h _=>h,fun _ _ _ h _=>h,fun _ _ _ h _=>h,fun _ _ _ h _=>h,fun _ _ _ h _=>h,fun _ _ _ h _=>h,fun _ _ _ h _=>h,fun _ _ _ h _=>h,trivial⟩ ⟨?_,?_,?_,?_,?_,?_,?_,?_,trivial⟩ ?_
 ·rintro vs wd kd ⟨-⟩
  refine WO.bu (fr':=[(9,.slice (some ⟨b,0,none⟩) (n+1) G)]) ⟨⟨_,rfl,rfl⟩,trivial⟩ ?_
  refine WO.v (R.move rfl) rfl ?_
  refine WO.nil ?_
  exact WX.aJ rfl rfl (Kp.refl _)
 ·rintro vs wd kd ⟨-⟩
  refine WO.bu (fr':=[(1,.int .i64 ((i:Nat):Int))]) ⟨⟨_,rfl,rfl⟩,trivial⟩ ?_
  refine WO.v (R.move rfl) rfl ?_
  refine WO.nil ?_
  exact WX.aJ rfl rfl (Kp.refl _)
 ·rintro vs wd kd ⟨-⟩
  refine WO.bu (fr':=[(7,.int .i64 ((1:Nat):Int))]) ⟨⟨_,rfl,rfl⟩,trivial⟩ ?_
  refine WO.v (R.move rfl) rfl ?_
  refine WO.nil ?_
  exact WX.aJ rfl rfl (Kp.refl _)
 ·rintro vs wd kd ⟨e1,e2,-⟩
  refine WO.bu (fr':=[(47,.int .i64 ((i:Nat):Int)),(48,.int .i64 ((1:Nat):Int))]) ⟨⟨_,rfl,e1⟩,⟨_,rfl,e2⟩,trivial⟩ ?_
  refine WO.v (R.iN rfl rfl (by omega)) rfl ?_
  refine WO.nil ?_
  exact WX.aJ rfl rfl (Kp.refl _)
 ·rintro vs wd kd ⟨e0,e3,-⟩
  refine WO.bu (fr':=[(46,.slice (some ⟨b,0,none⟩) (n+1) G),(49,.int .i64 ((i+1:Nat):Int))]) ⟨⟨_,rfl,e0⟩,⟨_,rfl,e3⟩,trivial⟩ ?_
  refine WO.v (R.cj rfl rfl Tryz.underlying23 cn (dy (by omega)) (by omega)) rfl ?_
  refine WO.nil ?_
  exact WX.aJ rfl rfl (Kp.refl _)
 ·rintro vs wd kd ⟨-⟩
  refine WO.bu (fr':=[(0,.slice (some ⟨g,0,none⟩) n c)]) ⟨⟨_,rfl,rfl⟩,trivial⟩ ?_
  refine WO.v (R.move rfl) rfl ?_
  refine WO.nil ?_
  exact WX.aJ rfl rfl (Kp.refl _)
 ·rintro vs wd kd ⟨-⟩
  refine WO.bu (fr':=[(1,.int .i64 ((i:Nat):Int))]) ⟨⟨_,rfl,rfl⟩,trivial⟩ ?_
  refine WO.v (R.move rfl) rfl ?_
  refine WO.nil ?_
  exact WX.aJ rfl rfl (Kp.refl _)
 ·rintro vs wd kd ⟨e5,e6,-⟩
  refine WO.bu (fr':=[(51,.slice (some ⟨g,0,none⟩) n c),(52,.int .i64 ((i:Nat):Int))]) ⟨⟨_,rfl,e5⟩,⟨_,rfl,e6⟩,trivial⟩ ?_
  refine WO.v (R.cj rfl rfl Tryz.underlying23 cn (dy (by omega)) (by omega)) rfl ?_
  refine WO.nil ?_
  exact WX.aJ rfl rfl (Kp.refl _)
 rintro vsx w1 k1 ⟨-,-,-,-,e4,-,-,e7,-⟩
 replace k1:Kp [] (W1.setRow b (cur.take (i*2)++vs++cur.drop (i*2+vs.length)).toArray) w1:=k1
 refine WO.bu (fr':=[(50,.slice (some ⟨b,(i+1)*2,none⟩) (n+1 - (i+1)) (G - (i+1))),(53,.slice (some ⟨g,i*2,none⟩) (n - i) (c - i)),(9,.slice (some ⟨b,0,none⟩) (n+1) G)]) ⟨⟨_,rfl,e4⟩,⟨_,rfl,e7⟩,⟨_,rfl,rfl⟩,trivial⟩ ?_
 have hb2:w1.heap[b]? = some (.cells (List.toArray (cur.take (i*2)++vs++cur.drop (i*2+vs.length))) 77 (0,0)):=by rw [k1.block b (by simpa using ba hrow) (by simp)]; exact setRow_heap W1 b _ _ 77 _ hrow
 have hd2:CellsAt w1 ⟨g,i*2,none⟩ ds:=(hd.kp (Kp.setRow W1 b _) hgl (by simpa using hgb.symm)).kp k1 (by simpa using hgl) (by simp)
 refine WO.v (R.lu rfl rfl Tryz.underlying23 cn hb2 hn2 hd2 (by simp only [List.length_append,List.length_take,List.length_drop]; omega) h1d) rfl ?_
 refine WO.nil ?_
 refine WX.next ?_
 refine WC.seq ?_
 refine WC.region ?_
 refine WO.v (R.move rfl) rfl ?_
 refine WO.v (R.assign rfl) rfl ?_
 refine WO.nil ?_
 refine WX.next ?_
 refine WC.ret ?_
 refine WX.gK ?_
 refine WX.tP rfl rfl ?_
 exact ⟨rfl,w1,k1,rfl⟩
set_option maxRecDepth 100000 in
set_option maxHeartbeats 1000000 in
theorem pD {w:World} {g n i c vc:Nat} {ad:Addr} {cur vs ds:List Value} {curA:Array Value} {tA:TypeId} {fA:Nat × Nat} (hi:i<n) (hc:n+1<=c) (hcm:c<=maxLen)
  (hrow:w.heap[g]? = some (.cells cur.toArray 77 (0,0))) (hcur:(n+1)*2<=cur.length) (hv:CellsAt w ad vs) (hvb:w.heap[ad.block]? = some (.cells curA tA fA)) (hvb0:curA.size≠0) (hne:ad.block≠g) (hvl:vs.length=2) (hd:CellsAt w ⟨g,i*2,none⟩ ds) (hdl:ds.length=(n - i)*2)
  (h1v:∀ u ∈ vs,u.oneCell' = true) (h1d:∀ u ∈ ds,u.oneCell' = true) :
  g_ Tryz.prog 92 [.slice (some ⟨g,0,none⟩) n c,.int .i64 (i:Int),.slice (some ad) 1 vc].toArray w fun v w'=>v = .slice (some ⟨g,0,none⟩) (n+1) c/\∃ w1,Kp [] w w1/\w' = (w1.setRow g (cur.take ((i+1)*2)++ds++cur.drop ((i+1)*2+ds.length)).toArray).setRow g ((cur.take ((i+1)*2)++ds++cur.drop ((i+1)*2+ds.length)).take (i*2)++vs++(cur.take ((i+1)*2)++ds++cur.drop ((i+1)*2+ds.length)).drop (i*2+vs.length)).toArray:=by
 have hcm:c<=9223372036854775807:=hcm
 have hn1:vs.length=Nat.min 1 (n+1 - i)*2:=by rw [show Nat.min 1 (n+1 - i)=1 from Nat.min_eq_left (by omega),Nat.one_mul]; exact hvl
 have hn2:ds.length=Nat.min (n+1 - i) (n+1 - (i+1))*2:=by rw [show Nat.min (n+1 - i) (n+1 - (i+1))=n+1 - (i+1) from Nat.min_eq_right (by omega),hdl]; congr 1; omega
 refine g_.enter Tryz.func92 rfl rfl rfl rfl ?_
 refine WC.seq ?_
 refine WC.region ?_
 refine WO.v (R.assign rfl) rfl ?_
 refine WO.nil ?_
 refine WX.next ?_
 refine WC.seq ?_
 refine WC.region ?_
 refine WO.v (R.move rfl) rfl ?_
 refine WO.v (R.move rfl) rfl ?_
 refine WO.v (R.cj rfl rfl Tryz.underlying23 cn rfl (by omega)) rfl ?_
 refine WO.nil ?_
 refine WX.next ?_
 refine WC.seq ?_
 refine WC.region ?_
 refine WO.v (R.move rfl) rfl ?_
 refine WO.v (R.len rfl Tryz.underlying23) rfl ?_
 refine WO.v (R.assign rfl) rfl ?_
 refine WO.nil ?_
 refine WX.next ?_
 refine WC.seq ?_
 refine WC.seq ?_
 refine WC.region ?_
 refine WO.v (R.move rfl) rfl ?_
 refine WO.v (R.eql rfl rfl) rfl ?_
 refine WO.nil ?_
 refine WX.next ?_
 refine WC.cond rfl (fun q=>absurd (of_decide_eq_true q) (by omega)) (fun _=>?_)
 refine WC.skip ?_
 refine WX.next ?_
 refine WC.seq ?_
 refine WC.region ?_
 refine WO.v (R.move rfl) rfl ?_
 refine WO.v (R.len rfl Tryz.underlying23) rfl ?_
 refine WO.v (R.assign rfl) rfl ?_
 refine WO.nil ?_
 refine WX.next ?_
 refine WC.seq ?_
 refine WC.seq ?_
 refine WC.region ?_
 refine WO.v (R.move rfl) rfl ?_
 refine WO.v (R.move rfl) rfl ?_
 refine WO.v (R.eql rfl rfl) rfl ?_
 refine WO.nil ?_
 refine WX.next ?_
 refine WC.cond rfl (fun q=>absurd (of_decide_eq_true q) (by omega)) (fun _=>?_)
 refine WC.skip ?_
 refine WX.next ?_
 refine WC.seq ?_
 refine WC.seq ?_
 refine WC.region ?_
 refine WO.v (R.move rfl) rfl ?_
 refine WO.v (R.move rfl) rfl ?_
 refine WO.v (R.iN rfl rfl (by omega)) rfl ?_
 refine WO.v (R.move rfl) rfl ?_
 refine WO.v (R.Ex rfl Tryz.underlying23) rfl ?_
 refine WO.v (R.gtr rfl rfl) rfl ?_
 refine WO.nil ?_
 refine WX.next ?_
 refine WC.cond rfl (fun q=>absurd (of_decide_eq_true q) (by omega)) (fun _=>?_)
 refine WC.skip ?_
 refine WX.next ?_
 refine WC.seq ?_
 refine WC.region ?_
 refine WO.v (R.move rfl) rfl ?_
 refine WO.v (R.move rfl) rfl ?_
 refine WO.v (R.move rfl) rfl ?_
 refine WO.v (R.iN rfl rfl (by omega)) rfl ?_
 refine WO.v (R.kn rfl rfl Tryz.underlying23 cn (dy (i:=0) (by omega)) (by omega)) rfl ?_
 refine WO.v (R.assign rfl) rfl ?_
 refine WO.nil ?_
 refine WX.next ?_
 refine WC.seq ?_
 refine WC.seq ?_
 refine WC.region ?_
 refine WO.v (R.move rfl) rfl ?_
 refine WO.v (R.move rfl) rfl ?_
 refine WO.v (R.move rfl) rfl ?_
 refine WO.v (R.move rfl) rfl ?_
 refine WO.v (R.iN rfl rfl (by omega)) rfl ?_
 refine WO.v (R.cj rfl rfl Tryz.underlying23 cn (dy (by omega)) (by omega)) rfl ?_
 refine WO.v (R.LX (tS:=23) (tR:=4) Tryz.func124 rfl rfl (by kernel_rfl) (by kernel_rfl) Tryz.underlying23 cn hne hvb hvb0 hrow rfl rfl) rfl ?_
 refine WO.v (R.not rfl) rfl ?_
 refine WO.nil ?_
 refine WX.next ?_
 refine WC.Au rfl ?_
 refine WC.seq ?_
 refine WC.oM gJ [.ex [] (.slice (some ⟨g,0,none⟩) (n+1) c),.ex [] (.int .i64 ((i:Nat):Int)),.ex [] (.int .i64 ((1:Nat):Int)),.ex [1,2] (.int .i64 ((i+1:Nat):Int)),.ex [0,3] (.slice (some ⟨g,(i+1)*2,none⟩) (n+1 - (i+1)) (c - (i+1))),.ex [] (.slice (some ⟨g,0,none⟩) (n+1) c),.ex [] (.int .i64 ((i:Nat):Int)),.ex [5,6] (.slice (some ⟨g,i*2,none⟩) (n+1 - i) (c - i))] 8 (by kernel_rfl) ⟨fun _ _ _ h _=>h,fun _ _ _ h _=>h,fun _ _ _ h _=>h,fun _ _ _ h _=>h,fun _ _ _ h _=>h,fun _ _ _ h _=>h,fun _ _ _ h _=>h,fun _ _ _ h _=>h,trivial⟩ ⟨?_,?_,?_,?_,?_,?_,?_,?_,trivial⟩ ?_
 ·rintro vs wd kd ⟨-⟩
  refine WO.bu (fr':=[(0,.slice (some ⟨g,0,none⟩) (n+1) c)]) ⟨⟨_,rfl,rfl⟩,trivial⟩ ?_
  refine WO.v (R.move rfl) rfl ?_
  refine WO.nil ?_
  exact WX.aJ rfl rfl (Kp.refl _)
 ·rintro vs wd kd ⟨-⟩
  refine WO.bu (fr':=[(1,.int .i64 ((i:Nat):Int))]) ⟨⟨_,rfl,rfl⟩,trivial⟩ ?_
  refine WO.v (R.move rfl) rfl ?_
  refine WO.nil ?_
  exact WX.aJ rfl rfl (Kp.refl _)
 ·rintro vs wd kd ⟨-⟩
  refine WO.bu (fr':=[(7,.int .i64 ((1:Nat):Int))]) ⟨⟨_,rfl,rfl⟩,trivial⟩ ?_
  refine WO.v (R.move rfl) rfl ?_
  refine WO.nil ?_
  exact WX.aJ rfl rfl (Kp.refl _)
 ·rintro vs wd kd ⟨e1,e2,-⟩
  refine WO.bu (fr':=[(70,.int .i64 ((i:Nat):Int)),(71,.int .i64 ((1:Nat):Int))]) ⟨⟨_,rfl,e1⟩,⟨_,rfl,e2⟩,trivial⟩ ?_
  refine WO.v (R.iN rfl rfl (by omega)) rfl ?_
  refine WO.nil ?_
  exact WX.aJ rfl rfl (Kp.refl _)
 ·rintro vs wd kd ⟨e0,e3,-⟩
  refine WO.bu (fr':=[(69,.slice (some ⟨g,0,none⟩) (n+1) c),(72,.int .i64 ((i+1:Nat):Int))]) ⟨⟨_,rfl,e0⟩,⟨_,rfl,e3⟩,trivial⟩ ?_
  refine WO.v (R.cj rfl rfl Tryz.underlying23 cn (dy (by omega)) (by omega)) rfl ?_
  refine WO.nil ?_
  exact WX.aJ rfl rfl (Kp.refl _)
 ·rintro vs wd kd ⟨-⟩
  refine WO.bu (fr':=[(0,.slice (some ⟨g,0,none⟩) (n+1) c)]) ⟨⟨_,rfl,rfl⟩,trivial⟩ ?_
  refine WO.v (R.move rfl) rfl ?_
  refine WO.nil ?_
  exact WX.aJ rfl rfl (Kp.refl _)
 ·rintro vs wd kd ⟨-⟩
  refine WO.bu (fr':=[(1,.int .i64 ((i:Nat):Int))]) ⟨⟨_,rfl,rfl⟩,trivial⟩ ?_
  refine WO.v (R.move rfl) rfl ?_
  refine WO.nil ?_
  exact WX.aJ rfl rfl (Kp.refl _)
 ·rintro vs wd kd ⟨e5,e6,-⟩
  refine WO.bu (fr':=[(74,.slice (some ⟨g,0,none⟩) (n+1) c),(75,.int .i64 ((i:Nat):Int))]) ⟨⟨_,rfl,e5⟩,⟨_,rfl,e6⟩,trivial⟩ ?_
  refine WO.v (R.cj rfl rfl Tryz.underlying23 cn (dy (by omega)) (by omega)) rfl ?_
  refine WO.nil ?_
  exact WX.aJ rfl rfl (Kp.refl _)
 rintro vsx w1 k1 ⟨-,-,-,-,e4,-,-,e7,-⟩
 replace k1:Kp [] w w1:=k1
 refine WO.bu (fr':=[(73,.slice (some ⟨g,(i+1)*2,none⟩) (n+1 - (i+1)) (c - (i+1))),(76,.slice (some ⟨g,i*2,none⟩) (n+1 - i) (c - i)),(0,.slice (some ⟨g,0,none⟩) (n+1) c),(1,.int .i64 ((i:Nat):Int)),(2,.slice (some ad) 1 vc)]) ⟨⟨_,rfl,e4⟩,⟨_,rfl,e7⟩,⟨_,rfl,rfl⟩,⟨_,rfl,rfl⟩,⟨_,rfl,rfl⟩,trivial⟩ ?_
 have hg1:w1.heap[g]? = some (.cells (List.toArray cur) 77 (0,0)):=by rw [k1.block g (ba hrow) (by simp)]; exact hrow
 refine WO.v (R.lu rfl rfl Tryz.underlying23 cn hg1 hn2 (hd.kp k1 (ba hrow) (by simp)) (by omega) h1d) rfl ?_
 refine WO.nil ?_
 refine WX.next ?_
 have hg2:(w1.setRow g (cur.take ((i+1)*2)++ds++cur.drop ((i+1)*2+ds.length)).toArray).heap[g]? = some (.cells (List.toArray (cur.take ((i+1)*2)++ds++cur.drop ((i+1)*2+ds.length))) 77 (0,0)):=setRow_heap w1 g _ _ 77 _ hg1
 have hv2:CellsAt (w1.setRow g (cur.take ((i+1)*2)++ds++cur.drop ((i+1)*2+ds.length)).toArray) ad vs:=(hv.kp k1 (ba hvb) (by simp)).kp (Kp.setRow w1 g _) (Nat.lt_of_lt_of_le (ba hvb) k1.size) (by simpa using fun h=>hne h.symm)
 refine WC.seq ?_
 refine WC.region ?_
 refine WO.v (R.move rfl) rfl ?_
 refine WO.v (R.move rfl) rfl ?_
 refine WO.v (R.cj rfl rfl Tryz.underlying23 cn (dy (by omega)) (by omega)) rfl ?_
 refine WO.v (R.move rfl) rfl ?_
 refine WO.v (R.lu rfl rfl Tryz.underlying23 cn hg2 hn1 hv2 (by simp only [List.length_append,List.length_take,List.length_drop]; omega) h1v) rfl ?_
 refine WO.nil ?_
 refine WX.next ?_
 refine WC.seq ?_
 refine WC.region ?_
 refine WO.v (R.move rfl) rfl ?_
 refine WO.v (R.assign rfl) rfl ?_
 refine WO.nil ?_
 refine WX.next ?_
 refine WC.ret ?_
 refine WX.gK ?_
 refine WX.tP rfl rfl ?_
 exact ⟨rfl,w1,k1,rfl⟩
theorem uu {G:Gl} {ρ:List RE} {H:AH} {w:World} (hs:G.shp=aq aE) (hR:Rep G ρ H w) {l m:List (den (.nm .opn))} (hH:getO H 0 = .row 77 (.nm .opn) l) (hl:l.length<1048576) {i:Nat} (hi:i<=l.length) {v0:Value} (h0:Rd (cx G ρ w) ρ (.own 0) v0)
  {ad:Addr} {k:Nat} {cys:List Value} {bAV:AV} (hm:m.length=1) (hb:Rd (cx G ρ w) ρ bAV (.slice (some ad) 1 k)) (hbv:(bAV.vw H).fj (.nm .opn)=some m) (hv:CellsAt w ad cys) (hvl:cys.length=2) (h1v:∀ u ∈ cys,u.oneCell' = true) (hp:Pds (cx G ρ w) (m.flatMap (cellsOf (.nm .opn))) cys)
  (hne:∀ g c n z,ρ[0]? = some (.row g c n z)->ad.block≠g) {curA:Array Value} {tA:TypeId} {fA:Nat × Nat} (hvb:w.heap[ad.block]? = some (.cells curA tA fA)) (hvb0:curA.size≠0) :
  g_ Tryz.prog 92 [v0,.int .i64 (i:Int),.slice (some ad) 1 k].toArray w fun v w'=>∃ ρ',Stp (xI 0) ρ w ρ' w' /\ Rep G ρ' ((eO (AV.kill 0) H).set 0 (.row 77 (.nm .opn) (l.take i++m++l.drop i))) w' /\ Rd (cx G ρ' w') ρ' (.own 0) v:=by
 have hT:bp Tryz.prog G.shp aE:=hs ▸ f_
 obtain ⟨hshp,hlen⟩:=c_ hR hH
 have hl64:l.length<=9223372036854775807:=by omega
 have hin:((l.length:Nat):Int)<=9223372036854775807:=by omega
 by_cases hie:i=l.length
 ·subst hie
  have hc:∃ A c,v0 = .slice A l.length c:=by
   rcases h0 with ⟨g,cap,len,z,h1,rfl⟩ | ⟨h1,a,rfl⟩
   ·rcases bt hR hH with ⟨h2,_⟩ | ⟨g',cap',cells,sp,h2,_⟩
    ·rw [h1] at h2; cases h2
    ·rw [h1] at h2; cases h2; exact ⟨_,_,rfl⟩
   ·rcases bt hR hH with ⟨_,h2⟩ | ⟨g',cap',cells,sp,h2,_⟩
    ·subst h2; exact ⟨_,_,rfl⟩
    ·rw [h1] at h2; cases h2
  obtain ⟨A,c,rfl⟩:=hc
  refine uz fun F x y ty hx hy=>?_
  have happ:fQ aE (xI 0) ([]:AFr) H 23 (.own 0) bAV=some ⟨one (.own 0),[],(eO (AV.kill 0) H).set 0 (.row 77 (.nm .opn) (l++m)),[(l.length+m.length)*(Sh.nm NT.opn).bytes<=140737488355328],[]⟩:=by
   unfold fQ
   rw [show bw aE 23=some ⟨.sl 77 (some (.nm .opn)),1,[.em true]⟩ from by kernel_rfl]
   simp only [hbv,hH]
   rfl
  obtain ⟨v,w',h1,ρ',h2,h3,_,h5,_⟩:=fS (P:=Tryz.prog) (n:=95) (F:=[]) (ty:=ty) (fr:=[]) (x:=.const (.slice A l.length c)) (y:=.const (.slice (some ad) 1 k)) hT hR .nil happ (by
   intro p hp
   rw [List.mem_singleton] at hp; subst hp
   show (l.length+m.length)*16<=_
   omega) h0 hb rfl rfl
  refine ⟨v,w',R.wj h1 hx hy,ρ',h2,?_,h5⟩
  rw [List.take_length,List.drop_length,List.append_nil]
  exact h3
 ·have hlt:i<l.length:=by omega
  rcases bt hR hH with ⟨_,h2⟩ | ⟨g,cap,cells,sp,hρ,hg,hpd,hsz,hcap,hmax⟩
  ·subst h2; simp at hlt
  obtain ⟨hnb,hil,hiH⟩:=jF hR hH
  have hv0:v0 = .slice (some ⟨g,0,none⟩) l.length cap:=by
   rcases h0 with ⟨g',cap',len,z,h1,rfl⟩ | ⟨h1,a,rfl⟩
   ·rw [hρ] at h1; cases h1; rfl
   ·rw [hρ] at h1; cases h1
  subst hv0
  have hz:(Sh.nm NT.opn).size=2:=rfl
  have hby:(Sh.nm NT.opn).bytes=16:=rfl
  have hcl:cells.length=l.length*2:=by rw [<- hpd.length,bM,hz]
  rw [hz,List.length_append] at hsz
  have hone:∀ u ∈ cells.drop (i*2),u.oneCell' = true:=fun u hu=>hpd.zl u (List.mem_of_mem_drop hu)
  have hd:CellsAt w ⟨g,i*2,none⟩ (cells.drop (i*2)):=by
   have:=(bY hg).shift (i*2)
   rwa [add_lit,Nat.zero_add] at this
  have hdl:(cells.drop (i*2)).length=(l.length - i)*2:=by rw [List.length_drop,hcl]; omega
  have hgl:=ba hg
  have hzl:(l.take i++m++l.drop i).length=l.length+1:=by
   rw [List.length_append,List.length_append,List.length_take,List.length_drop,hm]; omega
  have hnew:∀ {c:Cx},(cx G ρ w).le c->Pds c ((l.take i++m++l.drop i).flatMap (cellsOf (.nm .opn))) (cells.take (i*2)++cys++cells.drop (i*2)):=fun {c} hle=>by
   rw [List.flatMap_append,List.flatMap_append]
   exact (((bI hpd i).append hp).append (bT hpd i)).carry hle
  have hnl:(cells.take (i*2)++cys++cells.drop (i*2)).length=(l.length+1)*2:=by
   rw [List.length_append,List.length_append,List.length_take,List.length_drop,hcl,hvl]; omega
  have hbig:(l.take i++m++l.drop i).length*(Sh.nm NT.opn).bytes<=140737488355328:=by rw [hzl,hby]; omega
  -- what is shown of any way
  have fin:∀ (S:List Nat) (g2 cap2:Nat) (sp2:List Value) (w':World),Kp S w w' -> (∀ b ∈ S,b=g)->(g2=g\/w.heap.size<=g2)->w'.heap[g2]? = some (.cells (List.toArray (cells.take (i*2)++cys++cells.drop (i*2)++sp2)) 77 (0,0))->(l.length+1)*2+sp2.length=cap2*2->l.length+1<=cap2->cap2<=maxLen ->
    ∃ ρ',Stp (xI 0) ρ w ρ' w' /\ Rep G ρ' ((eO (AV.kill 0) H).set 0 (.row 77 (.nm .opn) (l.take i++m++l.drop i))) w' /\ Rd (cx G ρ' w') ρ' (.own 0) (.slice (some ⟨g2,0,none⟩) (l.length+1) cap2):=by
   intro S g2 cap2 sp2 w' hk hS hg2 hh hlen2 hle2 hmax2
   obtain ⟨k1,k2,_⟩:=jh (ro:=xI 0) (s':=.nm .opn) (e':=77) (zs:=l.take i++m++l.drop i) hR hH ⟨rfl,rfl⟩ hk (fun b hb=>⟨_,hρ,by rw [hS b hb]; rfl⟩) (r':=.row g2 cap2 (l.take i++m++l.drop i).length (Sh.nm NT.opn).size) (fun b hb=>by
    cases hb
    rcases hg2 with rfl | hg2
    ·exact .inl ⟨_,hρ,rfl⟩
    ·exact .inr ⟨hg2,ba hh⟩) (fun hle=>⟨hshp,hbig,.inr ⟨g2,cap2,_,sp2,rfl,hh,hnew hle,by rw [List.length_append,hnl,hz]; exact hlen2,by rw [hzl]; exact hle2,hmax2⟩⟩)
   exact ⟨_,k1,k2,.inl ⟨g2,cap2,_,_,List.getElem?_set_self hil,by rw [hzl]⟩⟩
  have eo:(i+1)*2=i*2+2:=by omega
  by_cases hroom:l.length+1<=cap
  ·refine (pD hlt hroom hmax hg (by rw [List.length_append]; omega) hv hvb hvb0 (hne _ _ _ _ hρ) hvl hd hdl h1v hone).mono fun v w' ⟨e1,w1,k1,e2⟩=>?_
   subst e1; subst e2
   rw [eo,F_ (by omega) hvl]
   have hk:Kp [g] w ((w1.setRow g ((cells++sp).take (i*2+2)++cells.drop (i*2)++(cells++sp).drop (i*2+2+(cells.drop (i*2)).length)).toArray).setRow g (cells.take (i*2)++cys++cells.drop (i*2)++sp.drop 2).toArray):=((k1.sub (by simp)).step (Kp.setRow w1 g _) (by simp)).step (Kp.setRow _ g _) (by simp)
   have hg1:w1.heap[g]? = some (.cells (List.toArray (cells++sp)) 77 (0,0)):=by rw [k1.block g hgl (by simp)]; exact hg
   exact fin [g] g cap (sp.drop 2) _ hk (by simp) (.inl rfl) (setRow_heap _ g _ _ 77 _ (setRow_heap w1 g _ _ 77 _ hg1)) (by rw [List.length_drop]; omega) hroom hmax
  ·obtain ⟨ti,hi0,hz0,hz1,hz2⟩:=info_parts vu
   have eik:i+(l.length+1 - i)=l.length+1:=by omega
   have hge:=grownCap_ge w (l.length+1) cap 77
   have hgm:=grownCap_le_maxLen w (l.length+1) cap 77 (by simp [maxLen]; omega)
   have hold:(Builtin.firstCells ti.size i (.slice (some ⟨g,0*2,none⟩) i cap)).run Tryz.prog w.drew = .ok (cells.take (i*2)).toArray w.drew:=by
    have h:=run_loadCells_list (P:=Tryz.prog) w.drew ⟨g,0*2,none⟩ (cells.take (i*2)) (by rw [Nat.zero_mul]; exact (bY hg).take _)
    rw [List.length_take,Nat.min_eq_left (by omega)] at h
    rw [hz1]; exact h
   have happ:∀ (F:Fr) (x y:Operand) (ty:TypeId),ev F x=some (.slice (some ⟨g,0*2,none⟩) i cap)->ev F y=some (.int .i64 ((l.length+1 - i:Nat):Int))->aP Tryz.prog 95 F w (.call { callee:=.builtin .append,args:=#[x,y],argTypes:=#[23,3] }) ty (.slice (some ⟨w.heap.size,0,none⟩) (l.length+1) (grownCap w (l.length+1) cap 77)) (w.drew.alloc (.cells (List.toArray (cells.take (i*2)++((Builtin.zeroCells (Value.agg #[.int .i64 0,.int .i64 0]).cells (l.length+1 - i)).toList++(Builtin.zeroCells (Value.agg #[.int .i64 0,.int .i64 0]).cells (grownCap w (l.length+1) cap 77 - (l.length+1))).toList))) 77)):=fun F x y ty hx hy=>by
    have h:=R.IY (P:=Tryz.prog) (n:=95) (ty:=ty) hx hy Tryz.underlying23 Tryz.underlying3 hi0 hz0 hold (by omega) (by rw [hz1]; decide) (by omega) (by omega) (by rw [hz2]; omega) (by rw [hz2,eik]; exact growslice_fits (by omega) (by omega))
    rw [eik] at h
    have e:∀ (a:List Value) (b c:Array Value),a.toArray++b++c=(a++(b.toList++c.toList)).toArray:=fun a b c=>by apply Array.ext'; simp
    rw [e] at h
    exact h
   have hcurl:(cells.take (i*2)++((Builtin.zeroCells (Value.agg #[.int .i64 0,.int .i64 0]).cells (l.length+1 - i)).toList++(Builtin.zeroCells (Value.agg #[.int .i64 0,.int .i64 0]).cells (grownCap w (l.length+1) cap 77 - (l.length+1))).toList)).length=grownCap w (l.length+1) cap 77*2:=by
    rw [List.length_append,List.length_append,List.length_take,ml,ml]
    show min _ _+((l.length+1 - i)*2+(grownCap w (l.length+1) cap 77 - (l.length+1))*2)=_
    omega
   have htk:(cells.take (i*2)++((Builtin.zeroCells (Value.agg #[.int .i64 0,.int .i64 0]).cells (l.length+1 - i)).toList++(Builtin.zeroCells (Value.agg #[.int .i64 0,.int .i64 0]).cells (grownCap w (l.length+1) cap 77 - (l.length+1))).toList)).take (i*2)=cells.take (i*2):=List.take_left' (by rw [List.length_take]; omega)
   generalize grownCap w (l.length+1) cap 77=GC at *
   generalize cells.take (i*2)++((Builtin.zeroCells (Value.agg #[.int .i64 0,.int .i64 0]).cells (l.length+1 - i)).toList++(Builtin.zeroCells (Value.agg #[.int .i64 0,.int .i64 0]).cells (GC - (l.length+1))).toList)=cur at *
   have hK1:Kp [] w (w.drew.alloc (.cells (List.toArray cur) 77)):=((Kp.refl w).drew).step (Kp.alloc w.drew _) (by simp)
   have hrow:(w.drew.alloc (.cells (List.toArray cur) 77)).heap[w.heap.size]? = some (.cells (List.toArray cur) 77 (0,0)):=heap_alloc_new w.drew _
   generalize w.drew.alloc (.cells (List.toArray cur) 77)=W1 at *
   refine (qV hlt hcap (by omega) hmax hge hgm happ hrow (by omega) (hv.kp hK1 (ba hvb) (by simp)) hvl (hd.kp hK1 hgl (by simp)) (by omega) (Nat.lt_of_lt_of_le hgl hK1.size) hdl h1v hone).mono fun v w' ⟨e1,w1,k1,e2⟩=>?_
   subst e1; subst e2
   rw [eo,FG (cells:=cells) (by omega) hvl htk]
   have hs1:∀ b ∈ [w.heap.size],b ∈ ([]:List Nat)\/w.heap.size<=b:=fun b hb=>.inr (by rw [List.mem_singleton] at hb; omega)
   have hk:Kp [] w (w1.setRow w.heap.size (cells.take (i*2)++cys++cells.drop (i*2)++cur.drop (i*2+2+(cells.drop (i*2)).length)).toArray):=((hK1.step (Kp.setRow W1 w.heap.size _) hs1).step k1 (by simp)).step (Kp.setRow w1 w.heap.size _) hs1
   have hg1:=(k1.block w.heap.size (by simpa using ba hrow) (by simp)).trans (setRow_heap W1 w.heap.size _ (cur.take (i*2)++cys++cur.drop (i*2+cys.length)).toArray 77 _ hrow)
   exact fin [] w.heap.size GC _ _ hk (by simp) (.inr (Nat.le_refl _)) (setRow_heap w1 w.heap.size _ _ 77 _ hg1) (by rw [List.length_drop]; omega) hge hgm
theorem qo (i:Int) (l m:List (den (.nm .opn))) (h:0<=i/\i<=(l.length:Int)) (hl:l.length<1048576) (hm:m.length=1):Sat Tryz.prog (aq aE) 92 [.c (.own 0),.c (.int i),.c (.fz (.nm .opn) m)] [.row 77 (.nm .opn) l] ⟨[0<=i/\i<=(l.length:Int),l.length<1048576,m.length=1],[.c (.own 0)],some [.row 77 (.nm .opn) (l.take i.toNat++m++l.drop i.toNat)],false⟩:=by
 refine ⟨⟨_,Tryz.func92,by decide,rfl⟩,fun G ρ w vs hs hR hvs=>?_⟩
 obtain ⟨i,rfl⟩:=Int.eq_ofNat_of_zero_le h.1
 cases hvs with | cons h0 hvs=>
 cases hvs with | cons h1 hvs=>
 cases hvs with | cons h2 hvs=>
 cases hvs
 have h1:Pd (cx G ρ w) (.int (i:Int)) _:=h1
 cases h1
 have h0:Rd (cx G ρ w) ρ (.own 0) _:=h0
 have h2:Rd (cx G ρ w) ρ (.fz (.nm .opn) m) _:=h2
 have hH:getO [AO.row 77 (.nm .opn) l] 0 = .row 77 (.nm .opn) l:=rfl
 have hbv:(AV.vw [AO.row 77 (.nm .opn) l] (.fz (.nm .opn) m)).fj (.nm .opn)=some m:=by simp [AV.vw,AV.fj,getO]
 obtain ⟨A,k,cys,rfl,s1,s2,s3,s4⟩:=mV hR hbv h2
 rw [hm] at h2 s1 s3
 rw [hm]
 obtain ⟨ad,rfl,s5⟩:∃ ad,A=some ad/\CellsAt w ad cys:=s3.resolve_left (by decide)
 have hz:(Sh.nm NT.opn).size=2:=rfl
 rw [hz] at s1
 obtain ⟨u,hu⟩:∃ u,cys[0]? = some u:=⟨_,List.getElem?_eq_getElem (by omega)⟩
 obtain ⟨cur,t,f,hc,hc0⟩:=oT (s5 0 u hu)
 have hne:∀ g c n z,ρ[0]? = some (.row g c n z)->ad.block≠g:=fun g c n z hg e=>by
  have h2:Pd (cx G ρ w) (.fz (.nm .opn) m) (.slice (some ad) 1 k):=h2
  have h3:=HU h2 (by rw [hm]; decide)
  exact h3.1.2.1 ⟨0,_,hg,by rw [e]; rfl⟩
 rw [fb] at hc
 refine (uu hs hR hH hl (by omega) h0 hm h2 hbv s5 s1 s2 s4 hne hc hc0).mono fun v w' ⟨ρ',k1,k2,k3⟩=>?_
 exact ⟨[v],rfl,ρ',k2,k1.ext,k1.bx,.cons k3 .nil,fun hb=>by cases hb⟩
theorem CF:(Builtin.zeroCells (Value.agg #[.int .i64 0,.int .i64 0]).cells 1).toList=[.int .i64 0,.int .i64 0]:=by kernel_rfl
set_option maxRecDepth 100000 in
set_option maxHeartbeats 1000000 in
theorem yD {w:World} {g n i c:Nat} {cur ds:List Value} {ti:TypeInfo} (hi:i<n) (hnc:n<=c) (hcm:c<=maxLen) (hg:w.heap[g]? = some (.cells cur.toArray 77 (0,0))) (hcur:n*2<=cur.length) (hdl:ds.length=(n - (i+1))*2) (hd:CellsAt w (if c=i+1 then ⟨g,0,none⟩ else (⟨g,0,none⟩:Addr).add ((i+1)*2)) ds) (h1d:∀ u ∈ ds,u.oneCell' = true)
  (hi0:Tryz.prog.info? 77=some ti) (hz0:ti.zero=some (.agg #[.int .i64 0,.int .i64 0])) (hz1:ti.size=2) :
  g_ Tryz.prog 95 [.slice (some ⟨g,0,none⟩) n c,.int .i64 (i:Int),.int .i64 ((i+1:Nat):Int)].toArray w fun v w'=>v = .slice (some ⟨g,0,none⟩) (i+(n - (i+1))) c/\∃ w1,Kp [] w w1/\w' = (w1.setRow g (cur.take (i*ti.size)++ds++cur.drop (i*ti.size+ds.length)).toArray).setRow g ((cur.take (i*ti.size)++ds++cur.drop (i*ti.size+ds.length)).take ((i+(n - (i+1)))*2)++(Builtin.zeroCells (Value.agg #[.int .i64 0,.int .i64 0]).cells 1).toList++(cur.take (i*ti.size)++ds++cur.drop (i*ti.size+ds.length)).drop ((i+(n - (i+1)))*2+(Builtin.zeroCells (Value.agg #[.int .i64 0,.int .i64 0]).cells 1).toList.length)).toArray:=by
 have hcm:c<=9223372036854775807:=hcm
 refine g_.enter Tryz.func95 rfl rfl rfl rfl ?_
 refine WC.seq ?_
 refine WC.region ?_
 refine WO.v (R.assign rfl) rfl ?_
 refine WO.nil ?_
 refine WX.next ?_
 refine WC.seq ?_
 refine WC.region ?_
 refine WO.v (R.move rfl) rfl ?_
 refine WO.v (R.move rfl) rfl ?_
 refine WO.v (R.move rfl) rfl ?_
 refine WO.v (R.move rfl) rfl ?_
 refine WO.v (R.len rfl Tryz.underlying23) rfl ?_
 refine WO.v (R.slice3 rfl rfl rfl rfl Tryz.underlying23 cn (by omega) (by omega) (by omega)) rfl ?_
 refine WO.nil ?_
 refine WX.next ?_
 refine WC.seq ?_
 refine WC.seq ?_
 refine WC.region ?_
 refine WO.v (R.move rfl) rfl ?_
 refine WO.v (R.move rfl) rfl ?_
 refine WO.v (R.eql rfl rfl) rfl ?_
 refine WO.nil ?_
 refine WX.next ?_
 refine WC.cond rfl (fun q=>absurd (of_decide_eq_true q) (by omega)) (fun _=>?_)
 refine WC.skip ?_
 refine WX.next ?_
 refine WC.seq ?_
 refine WC.region ?_
 refine WO.v (R.move rfl) rfl ?_
 refine WO.v (R.len rfl Tryz.underlying23) rfl ?_
 refine WO.v (R.assign rfl) rfl ?_
 refine WO.nil ?_
 refine WX.next ?_
 refine WC.seq ?_
 refine WC.oM gJ [.ex [] (.slice (some ⟨g,0,none⟩) n c),.ex [] (.int .i64 ((i:Nat):Int)),.ex [0,1] (.slice (some ⟨g,0*2,none⟩) (i - 0) (c - 0)),.ex [] (.slice (some ⟨g,0,none⟩) n c),.ex [] (.int .i64 ((i+1:Nat):Int)),.ex [3,4] (.slice (some (if c=i+1 then ⟨g,0,none⟩ else (⟨g,0,none⟩:Addr).add ((i+1)*2))) (n - (i+1)) (c - (i+1)))] 6 (by kernel_rfl) ⟨fun _ _ _ h _=>h,fun _ _ _ h _=>h,fun _ _ _ h _=>h,fun _ _ _ h _=>h,fun _ _ _ h _=>h,fun _ _ _ h _=>h,trivial⟩ ⟨?_,?_,?_,?_,?_,?_,trivial⟩ ?_
 ·rintro vs wd kd ⟨-⟩
  refine WO.bu (fr':=[(0,.slice (some ⟨g,0,none⟩) n c)]) ⟨⟨_,rfl,rfl⟩,trivial⟩ ?_
  refine WO.v (R.move rfl) rfl ?_
  refine WO.nil ?_
  exact WX.aJ rfl rfl (Kp.refl _)
 ·rintro vs wd kd ⟨-⟩
  refine WO.bu (fr':=[(1,.int .i64 ((i:Nat):Int))]) ⟨⟨_,rfl,rfl⟩,trivial⟩ ?_
  refine WO.v (R.move rfl) rfl ?_
  refine WO.nil ?_
  exact WX.aJ rfl rfl (Kp.refl _)
 ·rintro vs wd kd ⟨e0,e1,-⟩
  refine WO.bu (fr':=[(20,.slice (some ⟨g,0,none⟩) n c),(21,.int .i64 ((i:Nat):Int))]) ⟨⟨_,rfl,e0⟩,⟨_,rfl,e1⟩,trivial⟩ ?_
  refine WO.v (R.kn rfl rfl Tryz.underlying23 cn (dy (i:=0) (by omega)) (by omega)) rfl ?_
  refine WO.nil ?_
  exact WX.aJ rfl rfl (Kp.refl _)
 ·rintro vs wd kd ⟨-⟩
  refine WO.bu (fr':=[(0,.slice (some ⟨g,0,none⟩) n c)]) ⟨⟨_,rfl,rfl⟩,trivial⟩ ?_
  refine WO.v (R.move rfl) rfl ?_
  refine WO.nil ?_
  exact WX.aJ rfl rfl (Kp.refl _)
 ·rintro vs wd kd ⟨-⟩
  refine WO.bu (fr':=[(2,.int .i64 ((i+1:Nat):Int))]) ⟨⟨_,rfl,rfl⟩,trivial⟩ ?_
  refine WO.v (R.move rfl) rfl ?_
  refine WO.nil ?_
  exact WX.aJ rfl rfl (Kp.refl _)
 ·rintro vs wd kd ⟨e3,e4,-⟩
  refine WO.bu (fr':=[(23,.slice (some ⟨g,0,none⟩) n c),(24,.int .i64 ((i+1:Nat):Int))]) ⟨⟨_,rfl,e3⟩,⟨_,rfl,e4⟩,trivial⟩ ?_
  refine WO.v (R.cj rfl rfl Tryz.underlying23 cn Gu (by omega)) rfl ?_
  refine WO.nil ?_
  exact WX.aJ rfl rfl (Kp.refl _)
 rintro vsx w1 k1 ⟨-,-,e2,-,-,e5,-⟩
 replace k1:Kp [] w w1:=k1
 refine WO.bu (fr':=[(22,.slice (some ⟨g,0*2,none⟩) (i - 0) (c - 0)),(25,.slice (some (if c=i+1 then ⟨g,0,none⟩ else (⟨g,0,none⟩:Addr).add ((i+1)*2))) (n - (i+1)) (c - (i+1))),(7,.int .i64 ((n:Nat):Int))]) ⟨⟨_,rfl,e2⟩,⟨_,rfl,e5⟩,⟨_,rfl,rfl⟩,trivial⟩ ?_
 have hg1:w1.heap[g]? = some (.cells (List.toArray cur) 77 (0,0)):=by rw [k1.block g (ba hg) (by simp)]; exact hg
 have hd1:CellsAt w1 (if c=i+1 then ⟨g,0,none⟩ else (⟨g,0,none⟩:Addr).add ((i+1)*2)) ds:=hd.keep (k1.block _ (by split <;> exact ba hg) (by simp))
 refine WO.v (R.Ef (sl:=i) (sc:=c) rfl rfl Tryz.underlying23 hi0 hg1 (by rw [hz1]; exact hdl) hd1 h1d (by omega) (by rw [hz1]; omega)) rfl ?_
 refine WO.v (R.assign rfl) rfl ?_
 refine WO.nil ?_
 refine WX.next ?_
 have hg2:=setRow_heap w1 g _ (cur.take (i*ti.size)++ds++cur.drop (i*ti.size+ds.length)).toArray 77 _ hg1
 refine WC.seq ?_
 refine WC.region ?_
 refine WO.v (R.move rfl) rfl ?_
 refine WO.v (R.move rfl) rfl ?_
 refine WO.v (R.len rfl Tryz.underlying23) rfl ?_
 refine WO.v (R.move rfl) rfl ?_
 refine WO.v (R.wP rfl rfl rfl Tryz.underlying23 cn (dy (by omega)) (by omega) (by omega)) rfl ?_
 refine WO.v0 (R.Mf rfl (by omega) Tryz.underlying23 hi0 hz0 (by rw [CF]; simp [Value.oneCell']) hg2 (by rw [ml,hz1]; simp only [List.length_append,List.length_take,List.length_drop]; show _+1*2<=_; omega)) ?_
 refine WO.nil ?_
 refine WX.next ?_
 refine WC.seq ?_
 refine WC.region ?_
 refine WO.v (R.move rfl) rfl ?_
 refine WO.v (R.assign rfl) rfl ?_
 refine WO.nil ?_
 refine WX.next ?_
 refine WC.ret ?_
 refine WX.tP rfl rfl ?_
 exact ⟨rfl,w1,k1,rfl⟩
theorem rK (i j:Int) (l:List (den (.nm .opn))) (h:0<=i/\i<(l.length:Int)/\j=i+1):Sat Tryz.prog (aq aE) 95 [.c (.own 0),.c (.int i),.c (.int j)] [.row 77 (.nm .opn) l] ⟨[0<=i/\i<(l.length:Int)/\j=i+1],[.c (.own 0)],some [.row 77 (.nm .opn) (l.take i.toNat++l.drop j.toNat)],false⟩:=by
 refine ⟨⟨_,Tryz.func95,by decide,rfl⟩,fun G ρ w vs hs hR hvs=>?_⟩
 obtain ⟨hi0,hi1,rfl⟩:=h
 obtain ⟨i,rfl⟩:=Int.eq_ofNat_of_zero_le hi0
 have hlt:i<l.length:=by omega
 cases hvs with | cons h0 hvs=>
 cases hvs with | cons h1 hvs=>
 cases hvs with | cons h2 hvs=>
 cases hvs
 have h1:Pd (cx G ρ w) (.int (i:Int)) _:=h1
 have h2:Pd (cx G ρ w) (.int ((i:Int)+1)) _:=h2
 cases h1
 cases h2
 have h0:Rd (cx G ρ w) ρ (.own 0) _:=h0
 have hH:getO [AO.row 77 (.nm .opn) l] 0 = .row 77 (.nm .opn) l:=rfl
 obtain ⟨hshp,hlen⟩:=c_ hR hH
 rcases bt hR hH with ⟨_,h2⟩ | ⟨g,cap,cells,sp,hρ,hg,hpd,hsz,hcap,hmax⟩
 ·subst h2; simp at hlt
 obtain ⟨hnb,hil,hiH⟩:=jF hR hH
 have hz:(Sh.nm NT.opn).size=2:=rfl
 have hby:(Sh.nm NT.opn).bytes=16:=rfl
 have hcl:cells.length=l.length*2:=by rw [<- hpd.length,bM,hz]
 rw [hz,List.length_append] at hsz
 rw [hby] at hlen
 obtain ⟨ti,hi0,hz0,hz1,hz2⟩:=info_parts vu
 have hone:∀ u ∈ cells.drop ((i+1)*2),u.oneCell' = true:=fun u hu=>hpd.zl u (List.mem_of_mem_drop hu)
 have hd:CellsAt w (if cap=i+1 then ⟨g,0,none⟩ else (⟨g,0,none⟩:Addr).add ((i+1)*2)) (cells.drop ((i+1)*2)):=by
  split
  ·rw [List.drop_of_length_le (by omega)]; exact CellsAt.nil
  ·exact (bY hg).shift _
 have hv0:∀ v,Rd (cx G ρ w) ρ (.own 0) v->v = .slice (some ⟨g,0,none⟩) l.length cap:=fun v h0=>by
  rcases h0 with ⟨g',cap',len,z,h1,rfl⟩ | ⟨h1,a,rfl⟩
  ·rw [hρ] at h1; cases h1; rfl
  ·rw [hρ] at h1; cases h1
 obtain rfl:=hv0 _ h0
 have e0:((i:Int)+1)=((i+1:Nat):Int):=by omega
 rw [e0]
 refine (yD hlt hcap hmax hg (by rw [List.length_append]; omega) (by rw [List.length_drop,hcl]; omega) hd hone hi0 hz0 hz1).mono fun v w' ⟨e1,w1,k1,e2⟩=>?_
 subst e1
 have hq:i+(l.length - (i+1))=l.length - 1:=by omega
 rw [hq,hz1,CF] at e2
 rw [hq]
 have hzl:(l.take i++l.drop (i+1)).length=l.length - 1:=by rw [List.length_append,List.length_take,List.length_drop]; omega
 have hnl:(cells.take (i*2)++cells.drop ((i+1)*2)).length=(l.length - 1)*2:=by rw [List.length_append,List.length_take,List.length_drop]; omega
 have htk:((cells++sp).take (i*2)++cells.drop ((i+1)*2)++(cells++sp).drop (i*2+(cells.drop ((i+1)*2)).length)).take ((l.length - 1)*2)=cells.take (i*2)++cells.drop ((i+1)*2):=by
  rw [List.take_append_of_le_length (l₁:=cells) (by omega)]
  exact List.take_left' hnl
 have hr1l:((cells++sp).take (i*2)++cells.drop ((i+1)*2)++(cells++sp).drop (i*2+(cells.drop ((i+1)*2)).length)).length=cap*2:=by
  simp only [List.length_append,List.length_drop,List.length_take]
  omega
 generalize (cells++sp).take (i*2)++cells.drop ((i+1)*2)++(cells++sp).drop (i*2+(cells.drop ((i+1)*2)).length)=r1 at e2 htk hr1l
 rw [htk,List.append_assoc] at e2
 generalize hsp2:([.int .i64 0,.int .i64 0]:List Value)++List.drop ((l.length - 1)*2+([.int .i64 0,.int .i64 0]:List Value).length) r1=sp2 at e2
 have hlen2:(l.length - 1)*2+sp2.length=cap*2:=by
  rw [<- hsp2]
  simp only [List.length_append,List.length_cons,List.length_nil,List.length_drop]
  omega
 have hg1:w1.heap[g]? = some (.cells (List.toArray (cells++sp)) 77 (0,0)):=by rw [k1.block g (ba hg) (by simp)]; exact hg
 have hh:=setRow_heap _ g _ (cells.take (i*2)++cells.drop ((i+1)*2)++sp2).toArray 77 _ (setRow_heap w1 g _ r1.toArray 77 _ hg1)
 have hk:=((k1.sub (T:=[g]) (by simp)).step (Kp.setRow w1 g r1.toArray) (by simp)).step (Kp.setRow _ g (cells.take (i*2)++cells.drop ((i+1)*2)++sp2).toArray) (by simp)
 subst e2
 obtain ⟨k2,k3,_⟩:=jh (ro:=xI 0) (s':=.nm .opn) (e':=77) (zs:=l.take i++l.drop (i+1)) hR hH ⟨rfl,rfl⟩ hk (fun b hb=>⟨_,hρ,by rw [List.mem_singleton] at hb; subst hb; rfl⟩) (r':=.row g cap (l.take i++l.drop (i+1)).length (Sh.nm NT.opn).size) (fun b hb=>by
  cases hb; exact .inl ⟨_,hρ,rfl⟩) (fun hle=>⟨hshp,by rw [hzl,hby]; omega,.inr ⟨g,cap,_,sp2,rfl,hh,by
   rw [List.flatMap_append]; exact ((bI hpd i).append (bT hpd (i+1))).carry hle,by rw [List.length_append,hnl,hz]; exact hlen2,by omega,hmax⟩⟩)
 exact ⟨[_],rfl,_,k3,k2.ext,k2.bx,.cons (.inl ⟨g,cap,_,_,List.getElem?_set_self hil,by rw [hzl]⟩) .nil,fun hb=>by cases hb⟩
end Go.Proofs.YtdggohppeeaipaaGreat
namespace Go.Proofs.YtdggohppeeaipaaGreat
open Go.RowKit
def kS {β:Type} (z:β) (k:Int):List (Int × β)->β
 | []=>z
 | p :: r=>if k=p.1 then p.2 else kS z k r
end Go.Proofs.YtdggohppeeaipaaGreat
namespace Go.Proofs.YtdggohppeeaipaaGreat
open Go.RowKit
theorem az {α:Type} {l:List α} {k:Nat} {x:α} (hx:l[k]? = some x):l.take (k+1)=l.take k++[x]:=by
 rw [List.take_add_one,hx]; rfl
end Go.Proofs.YtdggohppeeaipaaGreat
namespace Go.Proofs.YtdggohppeeaipaaGreat
open Go.RowKit
end Go.Proofs.YtdggohppeeaipaaGreat
namespace Go.Proofs.YtdggohppeeaipaaGreat
open Go.RowKit
theorem jU {α:Type} [DecidableEq α] {l m:List α} (h:¬ ((l.length:Nat):Int)=((m.length:Nat):Int)):false=decide (l=m):=by
 symm; apply decide_eq_false; rintro rfl; exact h rfl
theorem fu {α:Type} [DecidableEq α] {l m:List α} {k:Nat} (hl:l.length=m.length) (h:l.take k=m.take k) (hk:l.length<=k):true=decide (l=m):=by
 symm; apply decide_eq_true
 rwa [List.take_of_length_le hk,List.take_of_length_le (by omega)] at h
def aX (n a b:Int):Bool:=decide (a<=n) && decide (n<=b)
def ao {α:Type} (key:α->Int) (most:Int):Int->List α->Bool
 | _,[]=>true
 | a,x :: r=>aX (key x) (a+1) most && ao key most (key x) r
def aY {α:Type} (key:α->Int) (a:Int) (l:List α):Int:=l.foldl (fun _ x=>key x) a
theorem d_ {α:Type} {key:α->Int} {most:Int} {x:α}:∀ (p:List α) (a:Int),ao key most a (p++[x])=(ao key most a p && aX (key x) (aY key a p+1) most)
 | [],a=>by simp [ao,aY]
 | y :: p,a=>by
  rw [List.cons_append,ao,ao,d_ p,Bool.and_assoc]; rfl
theorem hU {α:Type} {key:α->Int} {most:Int} (q:List α):∀ (p:List α) (a:Int),ao key most a (p++q)=true->ao key most a p=true
 | [],a,_=>rfl
 | y :: p,a,h=>by
  rw [List.cons_append,ao,Bool.and_eq_true] at h
  rw [ao,Bool.and_eq_true]
  exact ⟨h.1,hU q p _ h.2⟩
theorem bQ {α:Type} {key:α->Int} {a:Int} {l:List α} {k:Nat} {x:α} (hx:l[k]? = some x):key x=aY key a (l.take (k+1)):=by
 rw [az hx,aY,List.foldl_append]; rfl
theorem fk {α:Type} {key:α->Int} {a:Int} {l:List α} {k:Nat} {x:α} (h:0<k) (hx:l[k - 1]? = some x):aY key a (l.take k)=key x:=by
 obtain ⟨j,rfl⟩:∃ j,k=j+1:=⟨k - 1,by omega⟩
 exact (bQ (by simpa using hx)).symm
theorem gu {α:Type} {key:α->Int} {most a:Int} {l:List α} {k:Nat} {x:α} (h:ao key most a (l.take k)=true) (hx:l[k]? = some x) (h1:aY key a (l.take k)<key x) (h2:key x<=most):ao key most a (l.take (k+1))=true:=by
 rw [az hx,d_,h,Bool.true_and,aX,Bool.and_eq_true,decide_eq_true_eq,decide_eq_true_eq]
 exact ⟨by omega,h2⟩
theorem lf {α:Type} {key:α->Int} {most a:Int} {l:List α} {k:Nat} {x:α} (hx:l[k]? = some x) (h:¬ (aY key a (l.take k)<key x/\key x<=most)):ao key most a l=false:=by
 cases hr:ao key most a l with
 | false=>rfl
 | true=>
  have h1:=hU (l.drop (k+1)) (l.take (k+1)) a (by rw [List.take_append_drop]; exact hr)
  rw [az hx,d_,Bool.and_eq_true,aX,Bool.and_eq_true,decide_eq_true_eq,decide_eq_true_eq] at h1
  exact absurd ⟨by omega,h1.2.2⟩ h
theorem gF {α:Type} {key:α->Int} {most a:Int} {l:List α} {k:Nat} (h:ao key most a (l.take k)=true) (hk:l.length<=k):ao key most a l=true:=by
 rwa [List.take_of_length_le hk] at h
def ct (l:List Int):Bool:=(decide ((1:Int)<=((l.length:Nat):Int)) && decide (((l.length:Nat):Int)<=8)) && ao id 64 0 l
theorem gS {l:List Int} {k:Nat} {x:Int} (hx:l[k]? = some x) (h:¬ (aY id 0 (l.take k)<x/\x<=64)):false=ct l:=by
 rw [ct,lf (key:=id) hx h,Bool.and_false]
theorem jJ {l:List Int} {k:Nat} (h:ao id 64 0 (l.take k)=true) (hk:l.length<=k):(decide ((1:Int)<=((l.length:Nat):Int)) && decide (((l.length:Nat):Int)<=8))=ct l:=by
 rw [ct,gF h hk,Bool.and_true]
theorem xb {l:List Int} {k:Nat} (h:ao id 64 0 (l.take k)=true):0<=aY id 0 (l.take k):=by
 by_cases hk:k=0
 ·subst hk; exact Int.le_refl _
 ·by_cases hl:k - 1<l.length
  ·have hx:=List.getElem?_eq_getElem hl
   rw [fk (by omega) hx]
   have e:l.take k=l.take (k - 1)++[l[k - 1]]:=by
    have:=az hx
    rwa [show k - 1+1=k by omega] at this
   rw [e,d_,Bool.and_eq_true,aX,Bool.and_eq_true,decide_eq_true_eq] at h
   have h0:∀ (p:List Int) (a:Int),0<=a->ao id 64 a p=true->0<=aY id a p:=by
    intro p
    induction p with
    | nil=>intro a ha _; exact ha
    | cons y p ih=>
     intro a ha hp
     rw [ao,Bool.and_eq_true,aX,Bool.and_eq_true,decide_eq_true_eq] at hp
     exact ih (id y) (by omega) hp.2
   have:=h0 _ _ (Int.le_refl 0) h.1
   omega
  ·have h0:∀ (p:List Int) (a:Int),0<=a->ao id 64 a p=true->0<=aY id a p:=by
    intro p
    induction p with
    | nil=>intro a ha _; exact ha
    | cons y p ih=>
     intro a ha hp
     rw [ao,Bool.and_eq_true,aX,Bool.and_eq_true,decide_eq_true_eq] at hp
     exact ih (id y) (by omega) hp.2
   exact h0 _ _ (Int.le_refl 0) h
theorem iz {l:List Int} {k:Nat} (h:ao id 64 0 (l.take k)=true) (hk:l.length<=k) (hl:1<=l.length/\l.length<=8):true=ct l:=by
 rw [ct,gF h hk,Bool.and_true]; symm; rw [Bool.and_eq_true,decide_eq_true_eq,decide_eq_true_eq]; omega
theorem mb {l:List Int} (hl:¬ (1<=l.length/\l.length<=8)):false=ct l:=by
 symm
 rw [ct,Bool.and_eq_false_iff]; left
 rw [Bool.and_eq_false_iff,decide_eq_false_iff_not,decide_eq_false_iff_not]; omega
end Go.Proofs.YtdggohppeeaipaaGreat
namespace Go.Proofs.YtdggohppeeaipaaGreat
open Go.RowKit
def aQ (x:Sess):Bool:=(aX x.seq 0 1048576 && aX x.last.code 0 99) && aX x.last.n 0 1048576
def aR (x:Opn):Bool:=aX x.client 1 8
theorem dH {α:Type} {p:α->Bool} {l:List α} {k:Nat} {x:α} (h:(l.take k).all p=true) (hx:l[k]? = some x) (hp:p x=true):(l.take (k+1)).all p=true:=by
 rw [az hx,List.all_append,h]; simp [hp]
theorem Az {α:Type} {p:α->Bool} {l:List α} {k:Nat} {x:α} (hx:l[k]? = some x) (hp:p x=false):l.all p=false:=by
 rw [List.all_eq_false]; exact ⟨x,List.mem_of_getElem? hx,by simp [hp]⟩
theorem Aj {α:Type} {p:α->Bool} {l:List α} {k:Nat} (h:(l.take k).all p=true) (hk:l.length<=k):l.all p=true:=by
 rwa [List.take_of_length_le hk] at h
end Go.Proofs.YtdggohppeeaipaaGreat
namespace Go.Proofs.YtdggohppeeaipaaGreat
open Go.RowKit
def a_ (n:Nat):Nat:=if h:n<128 then 1 else a_ (n / 128)+1
termination_by n
decreasing_by omega
theorem mQ {n:Nat} (h:¬ n<128):a_ n=a_ (n / 128)+1:=by rw [a_,dif_neg h]
theorem iH {n:Nat} (h:n<128):a_ n=1:=by rw [a_,dif_pos h]
theorem gU (n:Nat):1<=a_ n:=by rw [a_]; split <;> omega
theorem tx:∀ (k n:Nat),n<128 ^ (k+1)->a_ n<=k+1
 | 0,n,h=>by rw [iH (by simpa using h)]; omega
 | k+1,n,h=>by
  by_cases hn:n<128
  ·rw [iH hn]; omega
  ·rw [mQ hn]
   have:=tx k (n / 128) (by rw [Nat.div_lt_iff_lt_mul (by omega),<- Nat.pow_succ]; exact h)
   omega
theorem nI {n:Nat} (h:n<18446744073709551616):a_ n<=10:=tx 9 n (Nat.lt_of_lt_of_le h (by decide))
def DA (n i:Nat):UInt8:=UInt8.ofNat (n / 128 ^ i) ||| 128
def dC (n k:Nat):List UInt8:=(List.range k).map (DA n)++List.replicate (a_ n - k) 0
def ns (n:Nat):List UInt8:=(dC n (a_ n)).set (a_ n - 1) (DA n (a_ n - 1) &&& 127)
theorem ft {n k:Nat} (h:k<=a_ n):(dC n k).length=a_ n:=by simp [dC]; omega
theorem uU {n k:Nat} (h:k<a_ n):(dC n k).set k (DA n k)=dC n (k+1):=by
 unfold dC
 rw [List.set_append_right _ _ (by simp),List.range_succ,List.map_append,List.append_assoc]
 congr 1
 obtain ⟨j,hj⟩:∃ j,a_ n - k=j+1:=⟨a_ n - k - 1,by omega⟩
 rw [hj,show a_ n - (k+1)=j by omega]
 simp [List.replicate_succ]
theorem ie (n:Nat):List.replicate (a_ n) (0:UInt8)=dC n 0:=by simp [dC]
theorem tT {n:Nat} {x:UInt8} (h:(dC n (a_ n))[a_ n - 1]? = some x):x=DA n (a_ n - 1):=by
 have hp:=gU n
 unfold dC at h
 rw [List.getElem?_append_left (by simp; omega)] at h
 simp only [List.getElem?_map,List.getElem?_range (show a_ n - 1<a_ n by omega),Option.map_some,Option.some.injEq] at h
 exact h.symm
theorem div_pow {n k:Nat}:n / 128 ^ k / 2 ^ 7=n / 128 ^ (k+1):=by show n / 128 ^ k / 128=_; rw [Nat.div_div_eq_div_mul,Nat.pow_succ]
theorem zR (n:Nat):(ns n).length=a_ n:=by rw [ns,List.length_set,ft (Nat.le_refl _)]
theorem mY {n:Nat} (h:n<18446744073709551616):(ns n).length<=10:=by rw [zR]; exact nI h
def eD (l:List Int):List UInt8:=l.flatMap fun x=>ns x.toNat
theorem ki {l:List Int} {k:Nat} {x:Int} (hx:l[k]? = some x):eD (l.take k)++ns x.toNat=eD (l.take (k+1)):=by
 rw [az hx]; simp [eD]
theorem Ch {l:List Int} (h:∀ x ∈ l,x<=64):(eD l).length<=10*l.length:=by
 induction l with
 | nil=>simp [eD]
 | cons a l ih=>
  have h1:=ih fun x hx=>h x (List.mem_cons_of_mem _ hx)
  have h2:=mY (n:=a.toNat) (by have:=h a (by simp); omega)
  simp only [eD,List.flatMap_cons,List.length_append,List.length_cons] at *
  omega
theorem uA {l:List Int} (h:ct l=true):∀ x ∈ l,0<x/\x<=64:=by
 rw [ct,Bool.and_eq_true] at h
 have:∀ (l:List Int) (a:Int),0<=a->ao id 64 a l=true->∀ x ∈ l,0<x/\x<=64:=by
  intro l
  induction l with
  | nil=>intro a _ _ x hx; cases hx
  | cons y l ih=>
   intro a ha hl x hx
   rw [ao,Bool.and_eq_true,aX,Bool.and_eq_true,decide_eq_true_eq,decide_eq_true_eq] at hl
   have h1:a+1<=y:=hl.1.1
   have h2:y<=64:=hl.1.2
   rcases List.mem_cons.1 hx with rfl | hx
   ·omega
   ·exact ih (id y) (by show 0<=y; omega) hl.2 x hx
 exact this l 0 (by omega) h.2
theorem pq {l:List Int} (h:ct l=true):1<=l.length/\l.length<=8:=by
 rw [ct,Bool.and_eq_true,Bool.and_eq_true,decide_eq_true_eq,decide_eq_true_eq] at h
 omega
def fR (l:List Int):List UInt8:=if ct l then eD l else []
def dp (l:List Int):Int:=if ct l then 0 else 1
theorem mw {l:List Int} {k:Nat} (hr:ct l=true) (hk:l.length<=k):eD (l.take k)=fR l:=by rw [List.take_of_length_le hk,fR,if_pos hr]
theorem ku {l:List Int} (hr:ct l=false):[]=fR l:=by rw [fR,hr]; rfl
theorem eR {l:List Int} (hr:ct l=true):0=dp l:=by rw [dp,hr]; rfl
theorem eI {l:List Int} (hr:ct l=false):1=dp l:=by rw [dp,hr]; rfl
end Go.Proofs.YtdggohppeeaipaaGreat
namespace Go.Proofs.YtdggohppeeaipaaGreat
open Go.RowKit
def bN (v t:Int) (x:Snap):Bool:=((decide (dp x.chunks=0) && aX x.set 1 8) && (!x.held || decide (2<=v))) && decide (((x.tag.b.length:Nat):Int)<=t)
def gI (v:Int):Int:=if v<3 then 0 else 16
def dD (s:State) (v:Int):Bool:=!(decide (16<((s.snaps.length:Nat):Int)) || !(ao Snap.id (s.next - 1) 0 s.snaps)) && s.snaps.all (bN v (gI v))
def dj (s:State) (v:Int):Bool:=((aX s.version 1 3 && aX s.next 1 1048576) && aX s.keep 0 8) && aX s.quota 0 (if v<3 then 0 else 64)
def iO (s:State):Bool:=ao Sess.client 8 0 s.sess && s.sess.all aQ
def ga (s:State):Bool:=ao Opn.set 8 0 s.opens && s.opens.all aR
def mayF (s:State) (v:Int):Int:=if !(aX v 1 3) then 1 else if (((!dj s v || !iO s) || !ga s) || !dD s v) then 6 else 0
end Go.Proofs.YtdggohppeeaipaaGreat
namespace Go.Proofs.YtdggohppeeaipaaGreat
open Go.RowKit
theorem KO {s:State} {v:Int} (h:(!(aX v 1 3))=true):1=mayF s v:=by rw [mayF,if_pos h]
end Go.Proofs.YtdggohppeeaipaaGreat
namespace Go.Proofs.YtdggohppeeaipaaGreat
open Go.RowKit
def ea (next v:Int) (x:Snap):Bool:=((((ct x.chunks && aX x.id 1 (IntKind.i64.wrap (next - 1))) && aX x.set 1 8) && (!x.held || decide (2<=v))) && decide (((x.tag.b.length:Nat):Int)<=16)) && (decide (x.tag=⟨[]⟩) || decide (3<=v))
def aU {α:Type} (p:α->Bool) (key:α->Int) (most:Int) (l:List α):Bool:=ao key most 0 l && l.all p
def iK (s:State) (v:Int):Bool:=((((((decide ((1:Int)<=s.version)) && (decide (s.version<=(3:Int)))) && ((decide ((1:Int)<=s.next)) && (decide (s.next<=(1048576:Int))))) && ((decide ((0:Int)<=s.keep)) && (decide (s.keep<=(8:Int))))) && ((decide ((0:Int)<=s.quota)) && (decide (s.quota<=(64:Int))))) && (decide (s.quota=(0:Int)) || decide ((3:Int)<=v))) && decide (((s.snaps.length:Nat):Int)<=(16:Int))
theorem jS {α:Type} {p:α->Bool} {key:α->Int} {most:Int} {l:List α} {k:Nat} {x:α} (hx:l[k]? = some x):aU p key most (l.take (k+1))=(aU p key most (l.take k) && (aX (key x) 1 most && p x) && (decide (((k:Nat):Int)=(0:Int)) || decide (aY key 0 (l.take k)<key x))):=by
 unfold aU
 rw [az hx,d_,List.all_append]
 have e:aX (key x) (aY key 0 (l.take k)+1) most=true↔(aY key 0 (l.take k)<key x/\key x<=most):=by
  unfold aX; rw [Bool.and_eq_true,decide_eq_true_eq,decide_eq_true_eq]; omega
 have e1:aX (key x) 1 most=true↔(1<=key x/\key x<=most):=by
  unfold aX; rw [Bool.and_eq_true,decide_eq_true_eq,decide_eq_true_eq]
 have hp:∀ (q:List α) (a:Int),0<=a->ao key most a q=true->q≠[]->1<=aY key a q:=by
  intro q
  induction q with
  | nil=>intro a _ _ h; exact absurd rfl h
  | cons y q ih=>
   intro a ha hq _
   rw [ao,Bool.and_eq_true,aX,Bool.and_eq_true,decide_eq_true_eq] at hq
   cases q with
   | nil=>show 1<=key y; omega
   | cons z q=>exact ih (key y) (by omega) hq.2 (by simp)
 cases hr:ao key most 0 (l.take k) with
 | false=>simp
 | true=>
  by_cases hk:k=0
  ·subst hk
   have h0:aY key 0 (l.take 0)=0:=rfl
   have e2:aX (key x) (aY key 0 (l.take 0)+1) most=aX (key x) 1 most:=by rw [h0]; rfl
   rw [e2]; simp
  ·have hne:l.take k≠[]:=by
    intro h
    have h3:(l.take k).length=0:=by rw [h]; rfl
    have h2:=Be hx
    rw [List.length_take] at h3
    omega
   have h1:=hp _ _ (Int.le_refl 0) hr hne
   have e3:aX (key x) (aY key 0 (l.take k)+1) most=(aX (key x) 1 most && decide (aY key 0 (l.take k)<key x)):=by
    rw [Bool.eq_iff_iff,Bool.and_eq_true,e,e1,decide_eq_true_eq]; omega
   have e4:decide (((k:Nat):Int)=(0:Int))=false:=decide_eq_false (by omega)
   rw [e3,e4]
   cases aX (key x) 1 most <;> cases decide (aY key 0 (l.take k)<key x) <;> cases (l.take k).all p <;> cases hpx:p x <;> simp [hpx]
end Go.Proofs.YtdggohppeeaipaaGreat
namespace Go.Proofs.YtdggohppeeaipaaGreat
open Go.RowKit
theorem xD {B:Bool} {l:List Sess} {k:Nat} {x:Sess} (hx:l[k]? = some x):(B && aU aQ Sess.client 8 (l.take (k+1)))=(((((((B && aU aQ Sess.client 8 (l.take k)) && ((decide ((1:Int)<=x.client)) && (decide (x.client<=(8:Int))))) && ((decide ((0:Int)<=x.seq)) && (decide (x.seq<=(1048576:Int))))) && ((decide ((0:Int)<=x.last.code)) && (decide (x.last.code<=(99:Int))))) && ((decide ((0:Int)<=x.last.n)) && (decide (x.last.n<=(1048576:Int)))))) && (decide (((k:Nat):Int)=(0:Int)) || decide (aY Sess.client 0 (l.take k)<x.client))):=by
 rw [jS hx]
 show (B && (_ && (((decide ((1:Int)<=x.client)) && (decide (x.client<=(8:Int)))) && ((((decide ((0:Int)<=x.seq)) && (decide (x.seq<=(1048576:Int)))) && ((decide ((0:Int)<=x.last.code)) && (decide (x.last.code<=(99:Int))))) && ((decide ((0:Int)<=x.last.n)) && (decide (x.last.n<=(1048576:Int)))))) && _))=_
 cases B <;> cases aU aQ Sess.client 8 (l.take k) <;> cases ((decide ((1:Int)<=x.client)) && (decide (x.client<=(8:Int)))) <;> cases ((decide ((0:Int)<=x.seq)) && (decide (x.seq<=(1048576:Int)))) <;> cases ((decide ((0:Int)<=x.last.code)) && (decide (x.last.code<=(99:Int)))) <;> cases ((decide ((0:Int)<=x.last.n)) && (decide (x.last.n<=(1048576:Int)))) <;> rfl
theorem xL {B:Bool} {l:List Opn} {k:Nat} {x:Opn} (hx:l[k]? = some x):(B && aU aR Opn.set 8 (l.take (k+1)))=((((B && aU aR Opn.set 8 (l.take k)) && ((decide ((1:Int)<=x.set)) && (decide (x.set<=(8:Int))))) && ((decide ((1:Int)<=x.client)) && (decide (x.client<=(8:Int))))) && (decide (((k:Nat):Int)=(0:Int)) || decide (aY Opn.set 0 (l.take k)<x.set))):=by
 rw [jS hx]
 show (B && (_ && (((decide ((1:Int)<=x.set)) && (decide (x.set<=(8:Int)))) && ((decide ((1:Int)<=x.client)) && (decide (x.client<=(8:Int))))) && _))=_
 cases B <;> cases aU aR Opn.set 8 (l.take k) <;> cases ((decide ((1:Int)<=x.set)) && (decide (x.set<=(8:Int)))) <;> cases ((decide ((1:Int)<=x.client)) && (decide (x.client<=(8:Int)))) <;> rfl
def cN (s:State) (v:Int) (l:List Snap):Bool:=aU (ea s.next v) Snap.id (IntKind.i64.wrap (s.next - 1)) l
theorem gY {B:Bool} {s:State} {v:Int} {l:List Snap} {k:Nat} {x:Snap} (hx:l[k]? = some x):(B && cN s v (l.take (k+1)))=(((B && cN s v (l.take k)) && ea s.next v x) && (decide (((k:Nat):Int)=(0:Int)) || decide (aY Snap.id 0 (l.take k)<x.id))):=by
 unfold cN
 rw [jS hx]
 have e:(aX x.id 1 (IntKind.i64.wrap (s.next - 1)) && ea s.next v x)=ea s.next v x:=by
  unfold ea
  cases aX x.id 1 (IntKind.i64.wrap (s.next - 1)) <;> simp
 rw [e]
 cases B <;> cases aU (ea s.next v) Snap.id (IntKind.i64.wrap (s.next - 1)) (l.take k) <;> cases ea s.next v x <;> rfl
theorem iq {α:Type} {key:α->Int} {most:Int}:∀ {l:List α} {a:Int},0<=a->ao key most a l=true->∀ x ∈ l,1<=key x/\key x<=most
 | [],_,_,_,x,hx=>by cases hx
 | y :: l,a,ha,h,x,hx=>by
  rw [ao,Bool.and_eq_true,aX,Bool.and_eq_true,decide_eq_true_eq,decide_eq_true_eq] at h
  rcases List.mem_cons.1 hx with rfl | hx
  ·omega
  ·exact iq (by omega) h.2 x hx
theorem Et {z:Int} (h:I64 z):IntKind.i64.wrap z=z:=I64.wrap h
theorem Hq {v:Int} {x:Snap}:(decide (((x.tag.b.length:Nat):Int)<=16) && (decide (x.tag=⟨[]⟩) || decide (3<=v)))=decide (((x.tag.b.length:Nat):Int)<=gI v):=by
 have e:x.tag=⟨[]⟩↔x.tag.b.length=0:=by
  constructor
  ·intro h; rw [h]; rfl
  ·intro h; cases hx:x.tag with | mk b=>rw [hx] at h; simp at h; rw [h]
 rw [Bool.eq_iff_iff,Bool.and_eq_true,Bool.or_eq_true,decide_eq_true_eq,decide_eq_true_eq,decide_eq_true_eq,decide_eq_true_eq,e,gI]
 split <;> omega
theorem uR (l:List Int):decide (dp l=0)=ct l:=by
 unfold dp; cases ct l <;> rfl
theorem rA {next v:Int} {x:Snap} (hw:IntKind.i64.wrap (next - 1)=next - 1) (h:1<=x.id/\x.id<=next - 1):ea next v x=bN v (gI v) x:=by
 have e:aX x.id 1 (next - 1)=true:=by rw [aX,Bool.and_eq_true,decide_eq_true_eq,decide_eq_true_eq]; exact h
 unfold ea bN
 rw [hw,e,uR,<- Hq]
 cases ct x.chunks <;> cases aX x.set 1 8 <;> cases (!x.held || decide (2<=v)) <;> simp
theorem Br {q v:Int}:(((decide ((0:Int)<=q)) && (decide (q<=(64:Int)))) && (decide (q=(0:Int)) || decide ((3:Int)<=v)))=aX q 0 (if v<3 then 0 else 64):=by
 rw [Bool.eq_iff_iff,aX]
 simp only [Bool.and_eq_true,Bool.or_eq_true,decide_eq_true_eq]
 split <;> omega
theorem Jp {s:State} {v:Int} {k k2 k3:Nat} (h1:s.sess.length<=k) (h2:s.opens.length<=k2) (h3:s.snaps.length<=k3) :
  (((iK s v && aU aQ Sess.client 8 (s.sess.take k)) && aU aR Opn.set 8 (s.opens.take k2)) && cN s v (s.snaps.take k3)) = !(((!dj s v || !iO s) || !ga s) || !dD s v):=by
 rw [List.take_of_length_le h1,List.take_of_length_le h2,List.take_of_length_le h3]
 have e0:iK s v=(dj s v && decide (((s.snaps.length:Nat):Int)<=(16:Int))):=by
  unfold iK dj
  rw [<- Br]
  show ((((_ && aX s.next 1 1048576) && _) && _) && _ && _)=_
  simp only [aX,Bool.and_assoc]
 have e1:aU aQ Sess.client 8 s.sess=iO s:=rfl
 have e2:aU aR Opn.set 8 s.opens=ga s:=rfl
 rw [e0,e1,e2]
 cases hn:dj s v with
 | false=>simp
 | true=>
  have hnx:1<=s.next/\s.next<=1048576:=by
   unfold dj at hn
   simp only [Bool.and_eq_true,aX,decide_eq_true_eq] at hn
   exact hn.1.1.2
  have hw:IntKind.i64.wrap (s.next - 1)=s.next - 1:=Et ⟨by omega,by omega⟩
  have e3:(decide (((s.snaps.length:Nat):Int)<=(16:Int)) && cN s v s.snaps)=dD s v:=by
   unfold cN aU dD
   rw [hw]
   have ed:decide (16<((s.snaps.length:Nat):Int)) = !decide (((s.snaps.length:Nat):Int)<=(16:Int)):=by
    rw [<- decide_not,Bool.eq_iff_iff,decide_eq_true_eq,decide_eq_true_eq]; omega
   rw [ed]
   cases hr:ao Snap.id (s.next - 1) 0 s.snaps with
   | false=>simp
   | true=>
    have:s.snaps.all (ea s.next v)=s.snaps.all (bN v (gI v)):=by
     rw [Bool.eq_iff_iff,List.all_eq_true,List.all_eq_true]
     constructor
     ·intro h x hx; rw [<- rA hw (iq (Int.le_refl 0) hr x hx)]; exact h x hx
     ·intro h x hx; rw [rA hw (iq (Int.le_refl 0) hr x hx)]; exact h x hx
    rw [this]
    cases decide (((s.snaps.length:Nat):Int)<=(16:Int)) <;> simp
  rw [<- e3]
  cases iO s <;> cases ga s <;> cases decide (((s.snaps.length:Nat):Int)<=(16:Int)) <;> cases cN s v s.snaps <;> rfl
theorem Ji {s:State} {v:Int} {k k2 k3:Nat} (hv:(!(aX v 1 3))=false) (h1:s.sess.length<=k) (h2:s.opens.length<=k2) (h3:s.snaps.length<=k3)
  (h:(!(((iK s v && aU aQ Sess.client 8 (s.sess.take k)) && aU aR Opn.set 8 (s.opens.take k2)) && cN s v (s.snaps.take k3)))=true):6=mayF s v:=by
 rw [Jp h1 h2 h3,Bool.not_not] at h
 rw [mayF,hv,if_neg (by decide),if_pos h]
theorem II {s:State} {v:Int} {k k2 k3:Nat} (hv:(!(aX v 1 3))=false) (h1:s.sess.length<=k) (h2:s.opens.length<=k2) (h3:s.snaps.length<=k3)
  (h:(!(((iK s v && aU aQ Sess.client 8 (s.sess.take k)) && aU aR Opn.set 8 (s.opens.take k2)) && cN s v (s.snaps.take k3)))=false):0=mayF s v:=by
 rw [Jp h1 h2 h3,Bool.not_not] at h
 rw [mayF,hv,if_neg (by decide),h,if_neg (by decide)]
end Go.Proofs.YtdggohppeeaipaaGreat
namespace Go.Proofs.YtdggohppeeaipaaGreat
open Go.RowKit
def bR (k:Int):Int:=kS 0 k [((1:Int),(1:Int)),((2:Int),(1:Int)),((3:Int),(1:Int)),((4:Int),(1:Int)),((5:Int),(1:Int)),((6:Int),(1:Int)),((7:Int),(1:Int)),((8:Int),(1:Int)),((9:Int),(2:Int)),((10:Int),(2:Int)),((11:Int),(3:Int)),((12:Int),(3:Int))]
theorem CZ {k:Int} (h:1<=k/\k<=12):bR k=if k<=8 then 1 else if k<=10 then 2 else 3:=by
 have:k=1\/k=2\/k=3\/k=4\/k=5\/k=6\/k=7\/k=8\/k=9\/k=10\/k=11\/k=12:=by omega
 rcases this with rfl | rfl | rfl | rfl | rfl | rfl | rfl | rfl | rfl | rfl | rfl | rfl <;> rfl
theorem Ev {k:Int} (h:¬ (1<=k/\k<=12)):bR k=0:=by
 unfold bR
 simp only [kS]
 repeat rw [if_neg (by omega)]
theorem qP {n a b:Int} (h:aX n a b=true):a<=n/\n<=b:=by unfold aX at h; rw [Bool.and_eq_true,decide_eq_true_eq,decide_eq_true_eq] at h; exact h
theorem LS {n a b:Int} (h:aX n a b=false):¬ (a<=n/\n<=b):=fun h2=>by
 have:aX n a b=true:=by unfold aX; rw [Bool.and_eq_true,decide_eq_true_eq,decide_eq_true_eq]; exact h2
 rw [h] at this; cases this
def iu (c:Command):Command:={ c with chunks:=c.chunks.take 12,text:=c.text.cut 0 40 }
def fg (x:Int) (l:List Int):Int:=match l.findIdx? (fun y=>decide (x=y)) with | some i=>(i:Int) | none=>-1
theorem AW {x y:Int} {l:List Int} {k:Nat} (h:∀ j y,j<k->l[j]? = some y->¬ x=y) (hy:l[k]? = some y) (hxy:x=y):(k:Int)=fg x l:=by
 have:l.findIdx? (fun y=>decide (x=y))=some k:=by
  obtain ⟨hk,rfl⟩:=List.getElem?_eq_some_iff.1 hy
  rw [List.findIdx?_eq_some_iff_getElem]
  exact ⟨hk,decide_eq_true hxy,fun j hj=>by simpa using h j _ hj (List.getElem?_eq_getElem (by omega))⟩
 simp [fg,this]
theorem wc (x:Int) (l:List Int):decide (0<=fg x l)=l.contains x:=by
 unfold fg
 cases h:l.findIdx? (fun y=>decide (x=y)) with
 | none=>
  rw [List.findIdx?_eq_none_iff] at h
  have:l.contains x=false:=by
   rw [<- Bool.not_eq_true,List.contains_iff_mem]
   intro hm; have:=h x hm; simp at this
  rw [this]; rfl
 | some i=>
  rw [List.findIdx?_eq_some_iff_getElem] at h
  obtain ⟨hi,hp,_⟩:=h
  have:l.contains x=true:=by
   rw [List.contains_iff_mem,of_decide_eq_true hp]; exact List.getElem_mem hi
  rw [this]; simp
def ic (n most:Int) (named:Bool):Bool:=if named then (decide (1<=n) && decide (n<=most)) else decide (n=0)
def gC (k:Int):Int × Int:=kS (0,0) k [((6:Int),((0:Int),(8:Int))),((8:Int),((2:Int),(3:Int))),((12:Int),((0:Int),(64:Int)))]
def vT (c:Command):Bool:=if c.kind=3 then ct c.chunks else decide (((c.chunks.length:Nat):Int)=0)
def IT (c:Command):Bool:=if c.kind=11 then decide (((c.text.b.length:Nat):Int)<=16) else decide (c.text=⟨[]⟩)
def eA (c:Command):Bool:=((((((((decide ((gC c.kind).1<=c.n) && decide (c.n<=(gC c.kind).2)) && vT c) && IT c) && ic c.client 8 (!([(8:Int)].contains c.kind))) && ic c.seq 1048576 (!([(1:Int),8].contains c.kind))) && ic c.set 8 ([(2:Int),3,4].contains c.kind)) && ic c.id 1048576 ([(5:Int),7,9,10,11].contains c.kind)))
def bd (c:Command) (v:Int):Int:=if !(aX v 1 3) || decide (bR c.kind=0) then 1 else if v<bR c.kind then 10 else if !eA c then 1 else 0
end Go.Proofs.YtdggohppeeaipaaGreat
namespace Go.Proofs.YtdggohppeeaipaaGreat
open Go.RowKit
def FT (n:Int) (used:Bool) (lo hi:Int):Bool:=if used then (decide (lo<=n) && decide (n<=hi)) else decide (n=0)
def jm (k:Int):Int × Int:=(if k=8 then 2 else 0,if k=8 then 3 else if k=12 then 64 else 8)
theorem DU {s:Str}:decide (((s.b.length:Nat):Int)=0)=decide (s=⟨[]⟩):=by
 cases s with | mk b=>
 cases b with
 | nil=>simp
 | cons a t=>rw [Bool.eq_iff_iff]; simp; omega
theorem qT {k:Int}:(!decide (k=8))=(!([(8:Int)].contains k)):=by
 rw [Bool.eq_iff_iff]; simp
theorem AX {k:Int}:(!decide (k=8) && !decide (k=1))=(!([(1:Int),8].contains k)):=by
 rw [Bool.eq_iff_iff]; simp; omega
theorem yR {k:Int}:(decide (2<=k) && decide (k<=4))=([(2:Int),3,4].contains k):=by
 rw [Bool.eq_iff_iff]; simp; omega
theorem EH {k:Int}:((decide (k=5) || decide (k=7)) || (decide (9<=k) && decide (k<=11)))=([(5:Int),7,9,10,11].contains k):=by
 rw [Bool.eq_iff_iff]; simp; omega
theorem HD {k n:Int}:FT n ((decide (k=6) || decide (k=8)) || decide (k=12)) (jm k).1 (jm k).2=(decide ((gC k).1<=n) && decide (n<=(gC k).2)):=by
 by_cases h6:k=6
 ·subst h6; rfl
 by_cases h8:k=8
 ·subst h8; rfl
 by_cases h12:k=12
 ·subst h12; rfl
 have e:gC k=(0,0):=by simp [gC,kS,h6,h8,h12]
 rw [e,Bool.eq_iff_iff]
 simp [FT,h6,h8,h12]
 omega
theorem GW {c:Command}:(decide (((c.text.b.length:Nat):Int)=0) || (decide (c.kind=11) && decide (((c.text.b.length:Nat):Int)<=16)))=IT c:=by
 unfold IT
 by_cases h:c.kind=11
 ·rw [if_pos h,Bool.eq_iff_iff]; simp only [Bool.or_eq_true,Bool.and_eq_true,decide_eq_true_eq,h,true_and]; omega
 ·rw [if_neg h,DU]; simp [h]
theorem KZ {n m:Int} {u:Bool}:FT n u 1 m=ic n m u:=rfl
theorem zA {c:Command} :
  ((((((FT c.client (!decide (c.kind=8)) 1 8 && FT c.seq (!decide (c.kind=8) && !decide (c.kind=1)) 1 1048576) && FT c.set (decide (2<=c.kind) && decide (c.kind<=4)) 1 8) &&
   FT c.id ((decide (c.kind=5) || decide (c.kind=7)) || (decide (9<=c.kind) && decide (c.kind<=11))) 1 1048576) &&
   FT c.n ((decide (c.kind=6) || decide (c.kind=8)) || decide (c.kind=12)) (jm c.kind).1 (jm c.kind).2) && vT c) &&
   (decide (((c.text.b.length:Nat):Int)=0) || (decide (c.kind=11) && decide (((c.text.b.length:Nat):Int)<=16))))=eA c:=by
 rw [AX,qT,yR,EH,HD,GW]
 unfold eA
 simp only [KZ]
 ac_rfl
theorem IX {c:Command} {v:Int} (h:(!(aX v 1 3) || decide (bR c.kind=0))=true):1=bd c v:=by rw [bd,if_pos h]
theorem Gi {c:Command} {v:Int} (h:(!(aX v 1 3) || decide (bR c.kind=0))=false) (h2:v<bR c.kind):10=bd c v:=by rw [bd,h,if_neg (by decide),if_pos h2]
theorem HY {c:Command} {v:Int} (h:(!(aX v 1 3) || decide (bR c.kind=0))=false) (h2:¬ v<bR c.kind) (h3:(!eA c)=true):1=bd c v:=by rw [bd,h,if_neg (by decide),if_neg h2,if_pos h3]
theorem Kf {c:Command} {v:Int} (h:(!(aX v 1 3) || decide (bR c.kind=0))=false) (h2:¬ v<bR c.kind) (h3:(!eA c)=false):0=bd c v:=by rw [bd,h,if_neg (by decide),if_neg h2,h3,if_neg (by decide)]
end Go.Proofs.YtdggohppeeaipaaGreat
namespace Go.Proofs.YtdggohppeeaipaaGreat
open Go.RowKit
end Go.Proofs.YtdggohppeeaipaaGreat
namespace Go.Proofs.YtdggohppeeaipaaGreat
open Go.RowKit
def kb (k:Int):Bool:=decide (1<=k) && decide (k<=3)
theorem qW {α:Type} {a b:List α} {k:Nat} {d:α} (h:a.take k=b.take k) (ha:k<a.length) (hb:k<b.length) (e:a.getD k d=b.getD k d):a.take (k+1)=b.take (k+1):=by
 have h1:a[k]? = some (a.getD k d):=by rw [List.getD_eq_getElem?_getD,List.getElem?_eq_getElem ha]; rfl
 have h2:b[k]? = some (b.getD k d):=by rw [List.getD_eq_getElem?_getD,List.getElem?_eq_getElem hb]; rfl
 rw [az h1,az h2,h,e]
theorem mz {s:Str} {n:Nat} (h:(s.b.length:Int)<=n):s=⟨s.b.take n⟩:=by
 cases s; rw [List.take_of_length_le (by simpa using h)]
theorem HG {l:List Int} {k:Nat} {x:Int} (hx:l[k]? = some x):x=aY id 0 (l.take (k+1)):=bQ (key:=id) hx
theorem yV {l:List Int} {k:Nat} {x:Int} (h:ao id 64 0 (l.take k)=true) (hx:l[k]? = some x) (h1:aY id 0 (l.take k)<x) (h2:x<=64):ao id 64 0 (l.take (k+1))=true:=gu (key:=id) h hx (by dsimp only [id]; omega) (by dsimp only [id]; omega)
def I_ (l:List Int):List (Nat × LI):=[(5,{ σ:=Nat,F:=fun k=>([(3,one (.int (aY id 0 (l.take k)))),(14,one (.fz .int (l))),(15,one (.int (l).length)),(16,one (.int k))],[]),J:=fun k=>k<=l.length/\ao id 64 0 (l.take k)=true/\1<=l.length/\l.length<=8,μ:=fun k=>(l).length - k })]
def FJ (a:List Int) (b:List Int):List (Nat × LI):=[(4,{ σ:=Nat,F:=fun k=>([(0,one (.fz .int (a))),(1,one (.fz .int (b))),(5,one (.int k))],[]),J:=fun k=>k<=a.length/\a.length=b.length/\a.take k=b.take k,μ:=fun k=>a.length - k })]
theorem Fl (k:Int) (r0:Bool):cG aE jA [] Tryz.f120 [.c (.int (k))] [] [.c (.bool (.atom (r0)))]=(I64 k->(decide ((1:Int)<=k) && decide (k<=(3:Int)))=r0):=by kernel_rfl
theorem DG (k:Int):Sat Tryz.prog (aq aE) 120 [.c (.int (k))] [] ⟨[],[.c (.bool (.atom ((kb k))))],none,false⟩:=by
 refine aO db [] Tryz.func120 (by decide) (by kernel_rfl) ?_
 rw [Fl]
 grind [kb]
theorem JP (l:List Int) (r0:Bool):cG aE jA (I_ l) Tryz.f140 [.c (.fz .int (l))] [] [.c (.bool (.atom (r0)))]=((fun (q3:Int)=>(fun (q2:Int)=>(fun (q1:Nat)=>(fun (q0:Prop)=>l.length*(8:Nat)<=(140737488355328:Nat)->(q3<(1:Int)\/(8:Int)<q3->false=r0)/\((1:Int)<=q3/\q3<=(8:Int)->∃ (s0:Nat),(q2=aY id q2 (List.take s0 l)/\l=l/\q3=(↑q1:Int)/\q2=(↑s0:Int))/\(s0<=q1/\ao id (64:Int) q2 (List.take s0 l)=true/\q0)/\∀ (s:Nat),s<=q1/\ao id (64:Int) q2 (List.take s l)=true/\q0->((↑s:Int)<(↑q1:Int)->q2<=(↑s:Int)/\(↑s:Int)<q3/\∀ (x:Int),l[s]? = some x->I64 x->(x<=aY id q2 (List.take s l)\/(64:Int)<x->false=r0)/\(aY id q2 (List.take s l)<x/\x<=(64:Int)->I64 ((↑s:Int)+(1:Int))/\∃ (s':Nat),(x=aY id q2 (List.take s' l)/\l=l/\(↑q1:Int)=(↑q1:Int)/\(↑s:Int)+(1:Int)=(↑s':Int))/\(s' <= q1/\ao id (64:Int) q2 (List.take s' l)=true/\q0)/\q1 - s' < q1 - s))/\((↑q1:Int)<=(↑s:Int)->true=r0))) ((1:Nat)<=q1/\q1<=(8:Nat))) l.length) (0:Int)) (↑l.length:Int)):=by kernel_rfl
theorem Jh (l:List Int):Sat Tryz.prog (aq aE) 140 [.c (.fz .int (l))] [] ⟨[],[.c (.bool (.atom ((ct l))))],none,false⟩:=by
 refine aO db (I_ l) Tryz.func140 (by decide) (by kernel_rfl) ?_
 rw [JP]
 (repeat' (first | refine And.intro ?_ ?_ | intro))
 all_goals try (grind [mb,gS,iz,HG,yV,ao,aY])
 all_goals (refine ⟨0,?_⟩; (repeat' (first | refine And.intro ?_ ?_ | intro)))
 all_goals try (grind [mb,gS,iz,HG,yV,ao,aY])
 all_goals (refine ⟨‹Nat› + 1,?_⟩; (repeat' (first | refine And.intro ?_ ?_ | intro)))
 all_goals grind [mb,gS,iz,HG,yV,ao,aY]
theorem Hb (a:List Int) (b:List Int) (r0:Bool):cG aE jA (FJ a b) Tryz.f130 [.c (.fz .int (a)),.c (.fz .int (b))] [] [.c (.bool (.atom (r0)))]=((fun (q1:Nat)=>(fun (q0:Int)=>a.length*(8:Nat)<=(140737488355328:Nat)->b.length*(8:Nat)<=(140737488355328:Nat)->(¬q0=(↑b.length:Int)->false=r0)/\(q0=(↑b.length:Int)->∃ (s0:Nat),(a=a/\b=b/\(0:Int)=(↑s0:Int))/\(s0<=q1/\q1=b.length/\List.take s0 a=List.take s0 b)/\∀ (s:Nat),(fun (q2:Prop)=>s<=q1/\q1=b.length/\List.take s a=List.take s b->((↑s:Int)<q0->(0:Int)<=(↑s:Int)/\(↑s:Int)<q0/\(0:Int)<=(↑s:Int)/\(↑s:Int)<(↑b.length:Int)/\(I64 (a.getD s (dflt Sh.int))->I64 (b.getD s (dflt Sh.int))->(¬q2->false=r0)/\(q2->I64 ((↑s:Int)+(1:Int))/\∃ (s':Nat),(a=a/\b=b/\(↑s:Int)+(1:Int)=(↑s':Int))/\(s' <= q1/\q1=b.length/\List.take s' a=List.take s' b)/\q1 - s' < q1 - s)))/\(q0<=(↑s:Int)->true=r0)) (a.getD s (dflt Sh.int)=b.getD s (dflt Sh.int)))) (↑a.length:Int)) a.length):=by kernel_rfl
theorem It (a:List Int) (b:List Int):Sat Tryz.prog (aq aE) 130 [.c (.fz .int (a)),.c (.fz .int (b))] [] ⟨[],[.c (.bool (.atom ((decide (a=b)))))],none,false⟩:=by
 refine aO db (FJ a b) Tryz.func130 (by decide) (by kernel_rfl) ?_
 rw [Hb]
 (repeat' (first | refine And.intro ?_ ?_ | intro))
 all_goals try (grind [az])
 all_goals (refine ⟨0,?_⟩; (repeat' (first | refine And.intro ?_ ?_ | intro)))
 all_goals try (grind [az])
 all_goals (refine ⟨‹Nat› + 1,?_⟩; (repeat' (first | refine And.intro ?_ ?_ | intro)))
 all_goals first | exact qW (by grind) (by omega) (by omega) (by with_reducible assumption) | grind
theorem GM (x:Int) (r0:Int):cG aE jA [] Tryz.f119 [.c (.int (x))] [] [.c (.int (r0))]=((fun (q0:Option (den Sh.int))=>I64 x->((fun (j:Int)=>if j=(12:Int) then some (3:Int) else (fun (j:Int)=>if j=(11:Int) then some (3:Int) else (fun (j:Int)=>if j=(10:Int) then some (2:Int) else (fun (j:Int)=>if j=(9:Int) then some (2:Int) else (fun (j:Int)=>if j=(8:Int) then q0 else (fun (j:Int)=>if j=(7:Int) then q0 else (fun (j:Int)=>if j=(6:Int) then q0 else (fun (j:Int)=>if j=(5:Int) then q0 else (fun (j:Int)=>if j=(4:Int) then q0 else (fun (j:Int)=>if j=(3:Int) then q0 else (fun (j:Int)=>if j=(2:Int) then q0 else (fun (j:Int)=>if j=(1:Int) then q0 else (fun (_:Int)=>none) j) j) j) j) j) j) j) j) j) j) j) j) x).getD (dflt Sh.int)=r0) (some (1:Int))):=by kernel_rfl
theorem HS (x:Int):Sat Tryz.prog (aq aE) 119 [.c (.int (x))] [] ⟨[],[.c (.int ((bR x)))],none,false⟩:=by
 refine aO db [] Tryz.func119 (by decide) (by kernel_rfl) ?_
 rw [GM]
 intro _
 simp only [bR,kS]
 by_cases h:1<=x/\x<=12
 ·have h2:x=1\/x=2\/x=3\/x=4\/x=5\/x=6\/x=7\/x=8\/x=9\/x=10\/x=11\/x=12:=by omega
  rcases h2 with rfl | rfl | rfl | rfl | rfl | rfl | rfl | rfl | rfl | rfl | rfl | rfl <;> rfl
 ·have h1:¬ x=1:=by omega
  have h2:¬ x=2:=by omega
  have h3:¬ x=3:=by omega
  have h4:¬ x=4:=by omega
  have h5:¬ x=5:=by omega
  have h6:¬ x=6:=by omega
  have h7:¬ x=7:=by omega
  have h8:¬ x=8:=by omega
  have h9:¬ x=9:=by omega
  have h10:¬ x=10:=by omega
  have h11:¬ x=11:=by omega
  have h12:¬ x=12:=by omega
  simp [h1,h2,h3,h4,h5,h6,h7,h8,h9,h10,h11,h12,dflt]
theorem JT (s:Span) (k:Int) (r0:Bool):cG aE jA [] Tryz.f139 [.agg (cellsOf (.nm .span) s),.c (.int (k))] [] [.c (.bool (.atom (r0)))]=(I64 s.lo->I64 s.hi->I64 k->(decide (s.lo<=k) && decide (k<=s.hi))=r0):=by kernel_rfl
theorem JU (s:Span) (k:Int):Sat Tryz.prog (aq aE) 139 [.agg (cellsOf (.nm .span) s),.c (.int (k))] [] ⟨[],[.c (.bool (.atom ((decide (s.lo<=k) && decide (k<=s.hi)))))],none,false⟩:=by
 refine aO db [] Tryz.func139 (by decide) (by kernel_rfl) ?_
 rw [JT]
 grind
theorem AB (n:Int) (a:Int) (b:Int) (r0:Bool):cG aE jA [] Tryz.f110 [.c (.int (n)),.c (.int (a)),.c (.int (b))] [] [.c (.bool (.atom (r0)))]=(I64 n->I64 a->I64 b->(decide (a<=n) && decide (n<=b))=r0):=by kernel_rfl
theorem zF (n:Int) (a:Int) (b:Int):Sat Tryz.prog (aq aE) 110 [.c (.int (n)),.c (.int (a)),.c (.int (b))] [] ⟨[],[.c (.bool (.atom ((aX n a b))))],none,false⟩:=by
 refine aO db [] Tryz.func110 (by decide) (by kernel_rfl) ?_
 rw [AB]
 grind [aX]
theorem Ka (n:Int) (a:Int) (b:Int) (r0:Bool):cG aE jA [] Tryz.f67 [.c (.int (n)),.c (.int (a)),.c (.int (b))] [] [.c (.bool (.atom (r0)))]=(I64 n->I64 a->I64 b->(decide (a<=n) && decide (n<=b))=r0):=by kernel_rfl
theorem IS (n:Int) (a:Int) (b:Int):Sat Tryz.prog (aq aE) 67 [.c (.int (n)),.c (.int (a)),.c (.int (b))] [] ⟨[],[.c (.bool (.atom ((aX n a b))))],none,false⟩:=by
 refine aO db [] Tryz.func67 (by decide) (by kernel_rfl) ?_
 rw [Ka]
 grind [aX]
theorem Kc (n:Int) (a:Int) (b:Int) (r0:Bool):cG aE jA [] Tryz.f69 [.c (.int (n)),.c (.int (a)),.c (.int (b))] [] [.c (.bool (.atom (r0)))]=(I64 n->I64 a->I64 b->(decide (a<=n) && decide (n<=b))=r0):=by kernel_rfl
theorem J_ (n:Int) (a:Int) (b:Int):Sat Tryz.prog (aq aE) 69 [.c (.int (n)),.c (.int (a)),.c (.int (b))] [] ⟨[],[.c (.bool (.atom ((aX n a b))))],none,false⟩:=by
 refine aO db [] Tryz.func69 (by decide) (by kernel_rfl) ?_
 rw [Kc]
 grind [aX]
theorem uH (x:Sess) (r0:Int):cG aE jA [] Tryz.f86 [.agg (cellsOf (.nm .sess) x)] [] [.c (.int (r0))]=(I64 x.client->I64 x.seq->I64 x.last.code->I64 x.last.n->x.client=r0):=by kernel_rfl
theorem uJ (x:Sess):Sat Tryz.prog (aq aE) 86 [.agg (cellsOf (.nm .sess) x)] [] ⟨[],[.c (.int ((x.client)))],none,false⟩:=by
 refine aO db [] Tryz.func86 (by decide) (by kernel_rfl) ?_
 rw [uH]
 grind
theorem Dx (x:Opn) (r0:Int):cG aE jA [] Tryz.f115 [.agg (cellsOf (.nm .opn) x)] [] [.c (.int (r0))]=(I64 x.set->I64 x.client->x.set=r0):=by kernel_rfl
theorem DK (x:Opn):Sat Tryz.prog (aq aE) 115 [.agg (cellsOf (.nm .opn) x)] [] ⟨[],[.c (.int ((x.set)))],none,false⟩:=by
 refine aO db [] Tryz.func115 (by decide) (by kernel_rfl) ?_
 rw [Dx]
 grind
theorem Hr (x:Snap) (r0:Int):cG aE jA [] Tryz.f90 [.agg (cellsOf (.nm .snap) x)] [] [.c (.int (r0))]=(I64 x.id->I64 x.set->x.chunks.length*(8:Nat)<=(140737488355328:Nat)->x.tag.b.length<=(140737488355328:Nat)->x.id=r0):=by kernel_rfl
theorem Ha (x:Snap):Sat Tryz.prog (aq aE) 90 [.agg (cellsOf (.nm .snap) x)] [] ⟨[],[.c (.int ((x.id)))],none,false⟩:=by
 refine aO db [] Tryz.func90 (by decide) (by kernel_rfl) ?_
 rw [Hr]
 grind
theorem xX (e:Int) (r0:Reply):cG aE jA [] Tryz.f34 [.c (.int (e))] [] [.agg (cellsOf (.nm .reply) r0)]=(I64 e->e=r0.code/\(0:Int)=r0.n):=by kernel_rfl
theorem yd (e:Int):Sat Tryz.prog (aq aE) 34 [.c (.int (e))] [] ⟨[],[.agg (cellsOf (.nm .reply) (⟨e,0⟩))],none,false⟩:=by
 refine aO db [] Tryz.func34 (by decide) (by kernel_rfl) ?_
 rw [xX]
 grind
def BL:cK:=(bE 34 (bz (aj (kC cI) aL) aM fun (e,_) (_)=>⟨[],[.agg (cellsOf (.nm .reply) (⟨e,0⟩))],none,false⟩) (bE 90 (bz (aj (kT (.nm .snap)) aL) aM fun (x,_) (_)=>⟨[],[.c (.int ((x.id)))],none,false⟩) (bE 115 (bz (aj (kT (.nm .opn)) aL) aM fun (x,_) (_)=>⟨[],[.c (.int ((x.set)))],none,false⟩) (bE 86 (bz (aj (kT (.nm .sess)) aL) aM fun (x,_) (_)=>⟨[],[.c (.int ((x.client)))],none,false⟩) (bE 69 (bz (aj (kC cI) (aj (kC cI) (aj (kC cI) aL))) aM fun (n,a,b,_) (_)=>⟨[],[.c (.bool (.atom ((aX n a b))))],none,false⟩) (bE 67 (bz (aj (kC cI) (aj (kC cI) (aj (kC cI) aL))) aM fun (n,a,b,_) (_)=>⟨[],[.c (.bool (.atom ((aX n a b))))],none,false⟩) (bE 110 (bz (aj (kC cI) (aj (kC cI) (aj (kC cI) aL))) aM fun (n,a,b,_) (_)=>⟨[],[.c (.bool (.atom ((aX n a b))))],none,false⟩) (bE 139 (bz (aj (kT (.nm .span)) (aj (kC cI) aL)) aM fun (s,k,_) (_)=>⟨[],[.c (.bool (.atom ((decide (s.lo<=k) && decide (k<=s.hi)))))],none,false⟩) (bE 119 (bz (aj (kC cI) aL) aM fun (x,_) (_)=>⟨[],[.c (.int ((bR x)))],none,false⟩) (bE 130 (bz (aj (kC (cL .int)) (aj (kC (cL .int)) aL)) aM fun (a,b,_) (_)=>⟨[],[.c (.bool (.atom ((decide (a=b)))))],none,false⟩) (bE 140 (bz (aj (kC (cL .int)) aL) aM fun (l,_) (_)=>⟨[],[.c (.bool (.atom ((ct l))))],none,false⟩) (bE 120 (bz (aj (kC cI) aL) aM fun (k,_) (_)=>⟨[],[.c (.bool (.atom ((kb k))))],none,false⟩) jA))))))))))))
theorem lT:aV Tryz.prog (aq aE) BL:=(ax (aw (ab (av ay) ak) al fun (e,_) (_) _=>yd e ) (ax (aw (ab bf ak) al fun (x,_) (_) _=>Ha x ) (ax (aw (ab bf ak) al fun (x,_) (_) _=>DK x ) (ax (aw (ab bf ak) al fun (x,_) (_) _=>uJ x ) (ax (aw (ab (av ay) (ab (av ay) (ab (av ay) ak))) al fun (n,a,b,_) (_) _=>J_ n a b ) (ax (aw (ab (av ay) (ab (av ay) (ab (av ay) ak))) al fun (n,a,b,_) (_) _=>IS n a b ) (ax (aw (ab (av ay) (ab (av ay) (ab (av ay) ak))) al fun (n,a,b,_) (_) _=>zF n a b ) (ax (aw (ab bf (ab (av ay) ak)) al fun (s,k,_) (_) _=>JU s k ) (ax (aw (ab (av ay) ak) al fun (x,_) (_) _=>HS x ) (ax (aw (ab (av bn) (ab (av bn) ak)) al fun (a,b,_) (_) _=>It a b ) (ax (aw (ab (av bn) ak) al fun (l,_) (_) _=>Jh l ) (ax (aw (ab (av ay) ak) al fun (k,_) (_) _=>DG k ) db))))))))))))
end Go.Proofs.YtdggohppeeaipaaGreat
namespace Go.Proofs.YtdggohppeeaipaaGreat
open Go.RowKit
theorem ai {n:Int} (h1:-9223372036854775808<=n) (h2:n<=9223372036854775807):I64 n:=⟨h1,h2⟩
def ag {α:Type} (key:α->Int) (want:Int) (l:List α):Int:=match l.findIdx? (fun x=>decide (key x=want)) with
 | some i=>(i:Int)
 | none=>-1
section
variable {α:Type} {key:α->Int} {want:Int} {l:List α} {k:Nat} {x:α}
theorem h_:ag key want l = -1↔∀ x ∈ l,¬ key x=want:=by
 unfold ag
 cases h:l.findIdx? (fun x=>decide (key x=want)) with
 | none=>simpa using h
 | some i=>
  rw [List.findIdx?_eq_some_iff_getElem] at h
  obtain ⟨h1,h2,_⟩:=h
  simp only [decide_eq_true_eq] at h2
  constructor
  ·intro h; dsimp only at h; omega
  ·intro h; exact absurd h2 (h _ (List.getElem_mem h1))
theorem cc:ag key want (l.take 0) = -1:=rfl
theorem bP (h:ag key want (l.take k) = -1) (hx:l[k]? = some x) (hn:¬ key x=want):ag key want (l.take (k+1)) = -1:=by
 rw [h_] at h ⊢
 rw [az hx]
 intro y hy
 rcases List.mem_append.1 hy with hy | hy
 ·exact h y hy
 ·rw [List.mem_singleton] at hy; subst hy; exact hn
theorem bO (h:ag key want (l.take k) = -1) (hk:l.length<=k):-1=ag key want l:=by
 rw [List.take_of_length_le hk] at h; exact h.symm
theorem br (h:ag key want (l.take k) = -1) (hx:l[k]? = some x) (he:key x=want):(k:Int)=ag key want l:=by
 have:l.findIdx? (fun x=>decide (key x=want))=some k:=by
  rw [h_] at h
  obtain ⟨hk,rfl⟩:=List.getElem?_eq_some_iff.1 hx
  rw [List.findIdx?_eq_some_iff_getElem]
  refine ⟨hk,decide_eq_true he,fun j hj=>?_⟩
  have:=h l[j] (by rw [List.mem_take_iff_getElem]; exact ⟨j,by omega,rfl⟩)
  simpa using this
 rw [ag,this]
end
def mi (l:List Sess) (want:Int):List (Nat × LI):=[(2,{ σ:=Nat,F:=fun k=>([(1,one (.int (want))),(2,one (.fn 86 [] [])),(9,one (.fz (.nm .sess) (l))),(10,one (.int (l).length)),(11,one (.int k))],[]),J:=fun k=>k<=l.length/\ag Sess.client want (l.take k) = -1,μ:=fun k=>(l).length - k })]
def my (l:List Opn) (want:Int):List (Nat × LI):=[(2,{ σ:=Nat,F:=fun k=>([(1,one (.int (want))),(2,one (.fn 115 [] [])),(9,one (.fz (.nm .opn) (l))),(10,one (.int (l).length)),(11,one (.int k))],[]),J:=fun k=>k<=l.length/\ag Opn.set want (l.take k) = -1,μ:=fun k=>(l).length - k })]
def nD (l:List Snap) (want:Int):List (Nat × LI):=[(2,{ σ:=Nat,F:=fun k=>([(1,one (.int (want))),(2,one (.fn 90 [] [])),(9,one (.fz (.nm .snap) (l))),(10,one (.int (l).length)),(11,one (.int k))],[]),J:=fun k=>k<=l.length/\ag Snap.id want (l.take k) = -1,μ:=fun k=>(l).length - k })]
theorem sI (l:List Sess) (want:Int) (r0:Int):cG aE BL (mi l want) Tryz.f85 [.c (.fz (.nm .sess) (l)),.c (.int (want)),.c (.fn 86 [] [])] [] [.c (.int (r0))]=((fun (q1:Int)=>(fun (q0:Nat)=>l.length*(32:Nat)<=(140737488355328:Nat)->I64 want->∃ (s0:Nat),(want=want/\l=l/\(↑l.length:Int)=(↑q0:Int)/\(0:Int)=(↑s0:Int))/\(s0<=q0/\ag Sess.client want (List.take s0 l) = -q1)/\∀ (s:Nat),s<=q0/\ag Sess.client want (List.take s l) = -q1->((↑s:Int)<(↑q0:Int)->(0:Int)<=(↑s:Int)/\(↑s:Int)<(↑l.length:Int)/\∀ (x:Sess),l[s]? = some x->I64 x.client->I64 x.seq->I64 x.last.code->I64 x.last.n->I64 x.client->(x.client=want->(↑s:Int)=r0)/\(¬x.client=want->I64 ((↑s:Int)+q1)/\∃ (s':Nat),(want=want/\l=l/\(↑q0:Int)=(↑q0:Int)/\(↑s:Int)+q1=(↑s':Int))/\(s' <= q0/\ag Sess.client want (List.take s' l) = -q1)/\q0 - s' < q0 - s))/\((↑q0:Int)<=(↑s:Int) -> -q1=r0)) l.length) (1:Int)):=by kernel_rfl
theorem sQ (l:List Sess) (want:Int):Sat Tryz.prog (aq aE) 85 [.c (.fz (.nm .sess) (l)),.c (.int (want)),.c (.fn 86 [] [])] [] ⟨[],[.c (.int ((ag Sess.client want l)))],none,false⟩:=by
 refine aO lT (mi l want) Tryz.func85 (by decide) (by kernel_rfl) ?_
 rw [sI]
 (repeat' (first | with_reducible refine And.intro ?_ ?_ | with_reducible refine and_imp.2 ?_ | intro))
 all_goals try (first | (first | with_reducible rfl | with_reducible assumption | omega | (refine ai ?_ ?_ <;> omega)) | exact (cc (key:=Sess.client)) | exact (br (key:=Sess.client) (by with_reducible assumption) (by with_reducible assumption) (by with_reducible assumption)) | exact (bO (key:=Sess.client) (by with_reducible assumption) (by omega)) | exact (bP (key:=Sess.client) (by with_reducible assumption) (by with_reducible assumption) (by with_reducible assumption)))
 all_goals try (refine ⟨0,?_⟩; (repeat' (first | with_reducible refine And.intro ?_ ?_ | with_reducible refine and_imp.2 ?_ | intro)))
 all_goals try (first | (first | with_reducible rfl | with_reducible assumption | omega | (refine ai ?_ ?_ <;> omega)) | exact (cc (key:=Sess.client)) | exact (br (key:=Sess.client) (by with_reducible assumption) (by with_reducible assumption) (by with_reducible assumption)) | exact (bO (key:=Sess.client) (by with_reducible assumption) (by omega)) | exact (bP (key:=Sess.client) (by with_reducible assumption) (by with_reducible assumption) (by with_reducible assumption)))
 all_goals try (refine ⟨‹Nat› + 1,?_⟩; (repeat' (first | with_reducible refine And.intro ?_ ?_ | with_reducible refine and_imp.2 ?_ | intro)))
 all_goals (first | (first | with_reducible rfl | with_reducible assumption | omega | (refine ai ?_ ?_ <;> omega)) | exact (cc (key:=Sess.client)) | exact (br (key:=Sess.client) (by with_reducible assumption) (by with_reducible assumption) (by with_reducible assumption)) | exact (bO (key:=Sess.client) (by with_reducible assumption) (by omega)) | exact (bP (key:=Sess.client) (by with_reducible assumption) (by with_reducible assumption) (by with_reducible assumption)))
theorem qS (l:List Opn) (want:Int) (r0:Int):cG aE BL (my l want) Tryz.f123 [.c (.fz (.nm .opn) (l)),.c (.int (want)),.c (.fn 115 [] [])] [] [.c (.int (r0))]=((fun (q1:Int)=>(fun (q0:Nat)=>l.length*(16:Nat)<=(140737488355328:Nat)->I64 want->∃ (s0:Nat),(want=want/\l=l/\(↑l.length:Int)=(↑q0:Int)/\(0:Int)=(↑s0:Int))/\(s0<=q0/\ag Opn.set want (List.take s0 l) = -q1)/\∀ (s:Nat),s<=q0/\ag Opn.set want (List.take s l) = -q1->((↑s:Int)<(↑q0:Int)->(0:Int)<=(↑s:Int)/\(↑s:Int)<(↑l.length:Int)/\∀ (x:Opn),l[s]? = some x->I64 x.set->I64 x.client->I64 x.set->(x.set=want->(↑s:Int)=r0)/\(¬x.set=want->I64 ((↑s:Int)+q1)/\∃ (s':Nat),(want=want/\l=l/\(↑q0:Int)=(↑q0:Int)/\(↑s:Int)+q1=(↑s':Int))/\(s' <= q0/\ag Opn.set want (List.take s' l) = -q1)/\q0 - s' < q0 - s))/\((↑q0:Int)<=(↑s:Int) -> -q1=r0)) l.length) (1:Int)):=by kernel_rfl
theorem sr (l:List Opn) (want:Int):Sat Tryz.prog (aq aE) 123 [.c (.fz (.nm .opn) (l)),.c (.int (want)),.c (.fn 115 [] [])] [] ⟨[],[.c (.int ((ag Opn.set want l)))],none,false⟩:=by
 refine aO lT (my l want) Tryz.func123 (by decide) (by kernel_rfl) ?_
 rw [qS]
 (repeat' (first | with_reducible refine And.intro ?_ ?_ | with_reducible refine and_imp.2 ?_ | intro))
 all_goals try (first | (first | with_reducible rfl | with_reducible assumption | omega | (refine ai ?_ ?_ <;> omega)) | exact (cc (key:=Opn.set)) | exact (br (key:=Opn.set) (by with_reducible assumption) (by with_reducible assumption) (by with_reducible assumption)) | exact (bO (key:=Opn.set) (by with_reducible assumption) (by omega)) | exact (bP (key:=Opn.set) (by with_reducible assumption) (by with_reducible assumption) (by with_reducible assumption)))
 all_goals try (refine ⟨0,?_⟩; (repeat' (first | with_reducible refine And.intro ?_ ?_ | with_reducible refine and_imp.2 ?_ | intro)))
 all_goals try (first | (first | with_reducible rfl | with_reducible assumption | omega | (refine ai ?_ ?_ <;> omega)) | exact (cc (key:=Opn.set)) | exact (br (key:=Opn.set) (by with_reducible assumption) (by with_reducible assumption) (by with_reducible assumption)) | exact (bO (key:=Opn.set) (by with_reducible assumption) (by omega)) | exact (bP (key:=Opn.set) (by with_reducible assumption) (by with_reducible assumption) (by with_reducible assumption)))
 all_goals try (refine ⟨‹Nat› + 1,?_⟩; (repeat' (first | with_reducible refine And.intro ?_ ?_ | with_reducible refine and_imp.2 ?_ | intro)))
 all_goals (first | (first | with_reducible rfl | with_reducible assumption | omega | (refine ai ?_ ?_ <;> omega)) | exact (cc (key:=Opn.set)) | exact (br (key:=Opn.set) (by with_reducible assumption) (by with_reducible assumption) (by with_reducible assumption)) | exact (bO (key:=Opn.set) (by with_reducible assumption) (by omega)) | exact (bP (key:=Opn.set) (by with_reducible assumption) (by with_reducible assumption) (by with_reducible assumption)))
theorem rZ (l:List Snap) (want:Int) (r0:Int):cG aE BL (nD l want) Tryz.f89 [.c (.fz (.nm .snap) (l)),.c (.int (want)),.c (.fn 90 [] [])] [] [.c (.int (r0))]=((fun (q1:Int)=>(fun (q0:Nat)=>l.length*(64:Nat)<=(140737488355328:Nat)->I64 want->∃ (s0:Nat),(want=want/\l=l/\(↑l.length:Int)=(↑q0:Int)/\(0:Int)=(↑s0:Int))/\(s0<=q0/\ag Snap.id want (List.take s0 l) = -q1)/\∀ (s:Nat),s<=q0/\ag Snap.id want (List.take s l) = -q1->((↑s:Int)<(↑q0:Int)->(0:Int)<=(↑s:Int)/\(↑s:Int)<(↑l.length:Int)/\∀ (x:Snap),l[s]? = some x->I64 x.id->I64 x.set->x.chunks.length*(8:Nat)<=(140737488355328:Nat)->x.tag.b.length<=(140737488355328:Nat)->I64 x.id->(x.id=want->(↑s:Int)=r0)/\(¬x.id=want->I64 ((↑s:Int)+q1)/\∃ (s':Nat),(want=want/\l=l/\(↑q0:Int)=(↑q0:Int)/\(↑s:Int)+q1=(↑s':Int))/\(s' <= q0/\ag Snap.id want (List.take s' l) = -q1)/\q0 - s' < q0 - s))/\((↑q0:Int)<=(↑s:Int) -> -q1=r0)) l.length) (1:Int)):=by kernel_rfl
theorem sW (l:List Snap) (want:Int):Sat Tryz.prog (aq aE) 89 [.c (.fz (.nm .snap) (l)),.c (.int (want)),.c (.fn 90 [] [])] [] ⟨[],[.c (.int ((ag Snap.id want l)))],none,false⟩:=by
 refine aO lT (nD l want) Tryz.func89 (by decide) (by kernel_rfl) ?_
 rw [rZ]
 (repeat' (first | with_reducible refine And.intro ?_ ?_ | with_reducible refine and_imp.2 ?_ | intro))
 all_goals try (first | (first | with_reducible rfl | with_reducible assumption | omega | (refine ai ?_ ?_ <;> omega)) | exact (cc (key:=Snap.id)) | exact (br (key:=Snap.id) (by with_reducible assumption) (by with_reducible assumption) (by with_reducible assumption)) | exact (bO (key:=Snap.id) (by with_reducible assumption) (by omega)) | exact (bP (key:=Snap.id) (by with_reducible assumption) (by with_reducible assumption) (by with_reducible assumption)))
 all_goals try (refine ⟨0,?_⟩; (repeat' (first | with_reducible refine And.intro ?_ ?_ | with_reducible refine and_imp.2 ?_ | intro)))
 all_goals try (first | (first | with_reducible rfl | with_reducible assumption | omega | (refine ai ?_ ?_ <;> omega)) | exact (cc (key:=Snap.id)) | exact (br (key:=Snap.id) (by with_reducible assumption) (by with_reducible assumption) (by with_reducible assumption)) | exact (bO (key:=Snap.id) (by with_reducible assumption) (by omega)) | exact (bP (key:=Snap.id) (by with_reducible assumption) (by with_reducible assumption) (by with_reducible assumption)))
 all_goals try (refine ⟨‹Nat› + 1,?_⟩; (repeat' (first | with_reducible refine And.intro ?_ ?_ | with_reducible refine and_imp.2 ?_ | intro)))
 all_goals (first | (first | with_reducible rfl | with_reducible assumption | omega | (refine ai ?_ ?_ <;> omega)) | exact (cc (key:=Snap.id)) | exact (br (key:=Snap.id) (by with_reducible assumption) (by with_reducible assumption) (by with_reducible assumption)) | exact (bO (key:=Snap.id) (by with_reducible assumption) (by omega)) | exact (bP (key:=Snap.id) (by with_reducible assumption) (by with_reducible assumption) (by with_reducible assumption)))
def rD:cK:=(bE 89 (bz (aj (kC (cL (.nm .snap))) (aj (kC cI) (aj (kC (nQ 90 [] [])) aL))) aM fun (l,want,_,_) (_)=>⟨[],[.c (.int ((ag Snap.id want l)))],none,false⟩) (bE 123 (bz (aj (kC (cL (.nm .opn))) (aj (kC cI) (aj (kC (nQ 115 [] [])) aL))) aM fun (l,want,_,_) (_)=>⟨[],[.c (.int ((ag Opn.set want l)))],none,false⟩) (bE 85 (bz (aj (kC (cL (.nm .sess))) (aj (kC cI) (aj (kC (nQ 86 [] [])) aL))) aM fun (l,want,_,_) (_)=>⟨[],[.c (.int ((ag Sess.client want l)))],none,false⟩) BL)))
theorem fK:aV Tryz.prog (aq aE) rD:=(ax (aw (ab (av bn) (ab (av ay) (ab (av cC) ak))) al fun (l,want,_,_) (_) _=>sW l want ) (ax (aw (ab (av bn) (ab (av ay) (ab (av cC) ak))) al fun (l,want,_,_) (_) _=>sr l want ) (ax (aw (ab (av bn) (ab (av ay) (ab (av cC) ak))) al fun (l,want,_,_) (_) _=>sQ l want ) lT)))
end Go.Proofs.YtdggohppeeaipaaGreat
namespace Go.Proofs.YtdggohppeeaipaaGreat
open Go.RowKit
theorem Ew {n r m:Nat} (h:a_ n+1=a_ r+m) (hr:128<=r):a_ n+1=a_ (r / 128)+(m+1):=by
 have:=mQ (n:=r) (by omega); omega
theorem EU {n r m:Nat} (h:a_ n+1=a_ r+m) (hn:n<18446744073709551616):m<=10:=by
 have:=nI hn; have:=gU r; omega
theorem yN {n r m:Nat} (h:a_ n+1=a_ r+m) (hr:r<128):m=a_ n:=by
 have:=iH hr; omega
section
variable {α:Type} {key:α->Int} {most:Int} {l:List α} {k:Nat} {x:α}
theorem jy (h:ao key most 0 (l.take k)=true) (hx:l[k]? = some x) (hb:aX (key x) (aY key 0 (l.take k)+1) most=true):ao key most 0 (l.take (k+1))=true:=
 gu h hx (by have:=qP hb; omega) (qP hb).2
theorem jz (hx:l[k]? = some x) (hb:aX (key x) (aY key 0 (l.take k)+1) most=false):false=ao key most 0 l:=
 (lf hx (by have:=LS hb; omega)).symm
theorem jl (h:ao key most 0 (l.take k)=true) (hk:l.length<=k):true=ao key most 0 l:=(gF h hk).symm
theorem iU (hx:l[k]? = some x) (h0:0<=aY key 0 (l.take k)) (hb:aX (key x) (aY key 0 (l.take k)+1) most=true):0<=aY key 0 (l.take (k+1)):=by
 have:=qP hb; rw [<- bQ hx]; omega
theorem jB (hx:l[k]? = some x) (hb:aX (key x) (aY key 0 (l.take k)+1) most=true) (hm:most<=1048576):aY key 0 (l.take (k+1))<=1048576:=by
 have:=qP hb; rw [<- bQ hx]; omega
variable {p:α->Bool}
theorem iL (hx:l[k]? = some x) (hp:p x=false):false=l.all p:=(Az hx hp).symm
theorem ja (h:(l.take k).all p=true) (hk:l.length<=k):true=l.all p:=(Aj h hk).symm
end
def Fw (n:U64):List (Nat × LI):=[(2,{ σ:=Nat × Nat,F:=fun s=>([(0,one (.u64 s.1)),(3,one (.int s.2))],[]),J:=fun s=>s.1<18446744073709551616/\a_ n.n+1=a_ s.1+s.2,μ:=fun s=>s.1 })]
def lq (l:List Sess) (most:Int):List (Nat × LI):=[(3,{ σ:=Nat,F:=fun k=>([(1,one (.int (most))),(2,one (.fn 86 [] [])),(7,one (.int (aY Sess.client 0 (l.take k)))),(10,one (.fz (.nm .sess) (l))),(11,one (.int (l).length)),(12,one (.int k))],[]),J:=fun k=>k<=l.length/\ao Sess.client most 0 (l.take k)=true/\0<=aY Sess.client 0 (l.take k)/\aY Sess.client 0 (l.take k)<=1048576,μ:=fun k=>(l).length - k })]
def kQ (l:List Opn) (most:Int):List (Nat × LI):=[(3,{ σ:=Nat,F:=fun k=>([(1,one (.int (most))),(2,one (.fn 115 [] [])),(7,one (.int (aY Opn.set 0 (l.take k)))),(10,one (.fz (.nm .opn) (l))),(11,one (.int (l).length)),(12,one (.int k))],[]),J:=fun k=>k<=l.length/\ao Opn.set most 0 (l.take k)=true/\0<=aY Opn.set 0 (l.take k)/\aY Opn.set 0 (l.take k)<=1048576,μ:=fun k=>(l).length - k })]
def lz (l:List Snap) (most:Int):List (Nat × LI):=[(3,{ σ:=Nat,F:=fun k=>([(1,one (.int (most))),(2,one (.fn 90 [] [])),(7,one (.int (aY Snap.id 0 (l.take k)))),(10,one (.fz (.nm .snap) (l))),(11,one (.int (l).length)),(12,one (.int k))],[]),J:=fun k=>k<=l.length/\ao Snap.id most 0 (l.take k)=true/\0<=aY Snap.id 0 (l.take k)/\aY Snap.id 0 (l.take k)<=1048576,μ:=fun k=>(l).length - k })]
theorem HK (n:U64) (r0:Int):cG aE rD (Fw n) Tryz.f146 [.c (.u64 (n).n)] [] [.c (.int (r0))]=((fun (q0:Nat)=>n.n<(18446744073709551616:Nat)->∃ (s0:Nat × Nat),(n.n=s0.fst/\(1:Int)=(↑s0.snd:Int))/\(s0.fst<(18446744073709551616:Nat)/\q0=a_ s0.fst+s0.snd)/\∀ (s:Nat × Nat),s.fst<(18446744073709551616:Nat)/\q0=a_ s.fst+s.snd->((↑(128:Nat):Int)<=(↑s.fst:Int)->(7:Nat)<(64:Nat)/\I64 ((↑s.snd:Int)+(1:Int))/\∃ (s':Nat × Nat),(s.fst / (2:Nat) ^ (7:Nat)=s'.fst/\(↑s.snd:Int)+(1:Int)=(↑s'.snd:Int))/\(s'.fst<(18446744073709551616:Nat)/\q0=a_ s'.fst+s'.snd)/\s'.fst<s.fst)/\((↑s.fst:Int)<(↑(128:Nat):Int)->(↑s.snd:Int)=r0)) (a_ n.n+(1:Nat))):=by kernel_rfl
theorem HM (n:U64):Sat Tryz.prog (aq aE) 146 [.c (.u64 (n).n)] [] ⟨[],[.c (.int (((a_ n.n:Int))))],none,false⟩:=by
 refine aO fK (Fw n) Tryz.func146 (by decide) (by kernel_rfl) ?_
 rw [HK]
 intro hn
 refine ⟨(n.n,1),⟨rfl,rfl⟩,⟨hn,rfl⟩,fun s hs=>⟨fun h=>?_,fun h=>?_⟩⟩
 ·have h2:=Ew hs.2 (by omega)
  have h3:=EU hs.2 hn
  exact ⟨by omega,by constructor <;> omega,(s.1 / 128,s.2+1),⟨rfl,by simp⟩,⟨by show s.1 / 128<_; omega,h2⟩,by show s.1 / 128<s.1; omega⟩
 ·exact congrArg Int.ofNat (yN hs.2 (by omega))
theorem qk (l:List Sess) (most:Int) (r0:Bool):cG aE rD (lq l most) Tryz.f111 [.c (.fz (.nm .sess) (l)),.c (.int (most)),.c (.fn 86 [] [])] [] [.c (.bool (.atom (r0)))]=((fun (q1:Nat)=>(fun (q0:Int)=>l.length*(32:Nat)<=(140737488355328:Nat)->I64 most->∃ (s0:Nat),(fun (q2:Int)=>(most=most/\q0=q2/\l=l/\(↑l.length:Int)=(↑q1:Int)/\q0=(↑s0:Int))/\(s0<=q1/\ao Sess.client most q0 (List.take s0 l)=true/\q0<=q2/\q2<=(1048576:Int))/\∀ (s:Nat),(fun (q3:Int)=>s<=q1/\ao Sess.client most q0 (List.take s l)=true/\q0<=q3/\q3<=(1048576:Int)->((↑s:Int)<(↑q1:Int)->q0<=(↑s:Int)/\(↑s:Int)<(↑l.length:Int)/\∀ (x:Sess),(fun (q4:Bool)=>l[s]? = some x->I64 x.client->I64 x.seq->I64 x.last.code->I64 x.last.n->I64 x.client->I64 (q3+(1:Int))/\(q4=false->false=r0)/\(q4=true->I64 x.client->I64 ((↑s:Int)+(1:Int))/\∃ (s':Nat),(fun (q5:Int)=>(most=most/\x.client=q5/\l=l/\(↑q1:Int)=(↑q1:Int)/\(↑s:Int)+(1:Int)=(↑s':Int))/\(s' <= q1/\ao Sess.client most q0 (List.take s' l)=true/\q0<=q5/\q5<=(1048576:Int))/\q1 - s' < q1 - s) (aY Sess.client q0 (List.take s' l)))) (aX x.client (q3+(1:Int)) most))/\((↑q1:Int)<=(↑s:Int)->true=r0)) (aY Sess.client q0 (List.take s l))) (aY Sess.client q0 (List.take s0 l))) (0:Int)) l.length):=by kernel_rfl
theorem qL (l:List Sess) (most:Int) (h0:most<=1048576):Sat Tryz.prog (aq aE) 111 [.c (.fz (.nm .sess) (l)),.c (.int (most)),.c (.fn 86 [] [])] [] ⟨[most<=1048576],[.c (.bool (.atom ((ao Sess.client most 0 l))))],none,false⟩:=by
 refine aO fK (lq l most) Tryz.func111 (by decide) (by kernel_rfl) ?_
 rw [qk]
 (repeat' (first | with_reducible refine And.intro ?_ ?_ | with_reducible refine and_imp.2 ?_ | intro))
 all_goals try (first | (first | with_reducible rfl | with_reducible assumption | omega | (refine ai ?_ ?_ <;> omega)) | exact (jy (key:=Sess.client) (by with_reducible assumption) (by with_reducible assumption) (by with_reducible assumption)) | exact (jz (key:=Sess.client) (by with_reducible assumption) (by with_reducible assumption)) | exact (jl (key:=Sess.client) (by with_reducible assumption) (by omega)) | exact (bQ (key:=Sess.client) (by with_reducible assumption)) | exact (iU (key:=Sess.client) (by with_reducible assumption) (by with_reducible assumption) (by with_reducible assumption)) | exact (jB (key:=Sess.client) (by with_reducible assumption) (by with_reducible assumption) (by with_reducible assumption)) | exact rfl | exact Int.le_refl _ | exact (show (0:Int)<=1048576 by omega))
 all_goals try (refine ⟨0,?_⟩; (repeat' (first | with_reducible refine And.intro ?_ ?_ | with_reducible refine and_imp.2 ?_ | intro)))
 all_goals try (first | (first | with_reducible rfl | with_reducible assumption | omega | (refine ai ?_ ?_ <;> omega)) | exact (jy (key:=Sess.client) (by with_reducible assumption) (by with_reducible assumption) (by with_reducible assumption)) | exact (jz (key:=Sess.client) (by with_reducible assumption) (by with_reducible assumption)) | exact (jl (key:=Sess.client) (by with_reducible assumption) (by omega)) | exact (bQ (key:=Sess.client) (by with_reducible assumption)) | exact (iU (key:=Sess.client) (by with_reducible assumption) (by with_reducible assumption) (by with_reducible assumption)) | exact (jB (key:=Sess.client) (by with_reducible assumption) (by with_reducible assumption) (by with_reducible assumption)) | exact rfl | exact Int.le_refl _ | exact (show (0:Int)<=1048576 by omega))
 all_goals try (refine ⟨‹Nat› + 1,?_⟩; (repeat' (first | with_reducible refine And.intro ?_ ?_ | with_reducible refine and_imp.2 ?_ | intro)))
 all_goals (first | (first | with_reducible rfl | with_reducible assumption | omega | (refine ai ?_ ?_ <;> omega)) | exact (jy (key:=Sess.client) (by with_reducible assumption) (by with_reducible assumption) (by with_reducible assumption)) | exact (jz (key:=Sess.client) (by with_reducible assumption) (by with_reducible assumption)) | exact (jl (key:=Sess.client) (by with_reducible assumption) (by omega)) | exact (bQ (key:=Sess.client) (by with_reducible assumption)) | exact (iU (key:=Sess.client) (by with_reducible assumption) (by with_reducible assumption) (by with_reducible assumption)) | exact (jB (key:=Sess.client) (by with_reducible assumption) (by with_reducible assumption) (by with_reducible assumption)) | exact rfl | exact Int.le_refl _ | exact (show (0:Int)<=1048576 by omega))
theorem qw (l:List Opn) (most:Int) (r0:Bool):cG aE rD (kQ l most) Tryz.f114 [.c (.fz (.nm .opn) (l)),.c (.int (most)),.c (.fn 115 [] [])] [] [.c (.bool (.atom (r0)))]=((fun (q1:Nat)=>(fun (q0:Int)=>l.length*(16:Nat)<=(140737488355328:Nat)->I64 most->∃ (s0:Nat),(fun (q2:Int)=>(most=most/\q0=q2/\l=l/\(↑l.length:Int)=(↑q1:Int)/\q0=(↑s0:Int))/\(s0<=q1/\ao Opn.set most q0 (List.take s0 l)=true/\q0<=q2/\q2<=(1048576:Int))/\∀ (s:Nat),(fun (q3:Int)=>s<=q1/\ao Opn.set most q0 (List.take s l)=true/\q0<=q3/\q3<=(1048576:Int)->((↑s:Int)<(↑q1:Int)->q0<=(↑s:Int)/\(↑s:Int)<(↑l.length:Int)/\∀ (x:Opn),(fun (q4:Bool)=>l[s]? = some x->I64 x.set->I64 x.client->I64 x.set->I64 (q3+(1:Int))/\(q4=false->false=r0)/\(q4=true->I64 x.set->I64 ((↑s:Int)+(1:Int))/\∃ (s':Nat),(fun (q5:Int)=>(most=most/\x.set=q5/\l=l/\(↑q1:Int)=(↑q1:Int)/\(↑s:Int)+(1:Int)=(↑s':Int))/\(s' <= q1/\ao Opn.set most q0 (List.take s' l)=true/\q0<=q5/\q5<=(1048576:Int))/\q1 - s' < q1 - s) (aY Opn.set q0 (List.take s' l)))) (aX x.set (q3+(1:Int)) most))/\((↑q1:Int)<=(↑s:Int)->true=r0)) (aY Opn.set q0 (List.take s l))) (aY Opn.set q0 (List.take s0 l))) (0:Int)) l.length):=by kernel_rfl
theorem p_ (l:List Opn) (most:Int) (h0:most<=1048576):Sat Tryz.prog (aq aE) 114 [.c (.fz (.nm .opn) (l)),.c (.int (most)),.c (.fn 115 [] [])] [] ⟨[most<=1048576],[.c (.bool (.atom ((ao Opn.set most 0 l))))],none,false⟩:=by
 refine aO fK (kQ l most) Tryz.func114 (by decide) (by kernel_rfl) ?_
 rw [qw]
 (repeat' (first | with_reducible refine And.intro ?_ ?_ | with_reducible refine and_imp.2 ?_ | intro))
 all_goals try (first | (first | with_reducible rfl | with_reducible assumption | omega | (refine ai ?_ ?_ <;> omega)) | exact (jy (key:=Opn.set) (by with_reducible assumption) (by with_reducible assumption) (by with_reducible assumption)) | exact (jz (key:=Opn.set) (by with_reducible assumption) (by with_reducible assumption)) | exact (jl (key:=Opn.set) (by with_reducible assumption) (by omega)) | exact (bQ (key:=Opn.set) (by with_reducible assumption)) | exact (iU (key:=Opn.set) (by with_reducible assumption) (by with_reducible assumption) (by with_reducible assumption)) | exact (jB (key:=Opn.set) (by with_reducible assumption) (by with_reducible assumption) (by with_reducible assumption)) | exact rfl | exact Int.le_refl _ | exact (show (0:Int)<=1048576 by omega))
 all_goals try (refine ⟨0,?_⟩; (repeat' (first | with_reducible refine And.intro ?_ ?_ | with_reducible refine and_imp.2 ?_ | intro)))
 all_goals try (first | (first | with_reducible rfl | with_reducible assumption | omega | (refine ai ?_ ?_ <;> omega)) | exact (jy (key:=Opn.set) (by with_reducible assumption) (by with_reducible assumption) (by with_reducible assumption)) | exact (jz (key:=Opn.set) (by with_reducible assumption) (by with_reducible assumption)) | exact (jl (key:=Opn.set) (by with_reducible assumption) (by omega)) | exact (bQ (key:=Opn.set) (by with_reducible assumption)) | exact (iU (key:=Opn.set) (by with_reducible assumption) (by with_reducible assumption) (by with_reducible assumption)) | exact (jB (key:=Opn.set) (by with_reducible assumption) (by with_reducible assumption) (by with_reducible assumption)) | exact rfl | exact Int.le_refl _ | exact (show (0:Int)<=1048576 by omega))
 all_goals try (refine ⟨‹Nat› + 1,?_⟩; (repeat' (first | with_reducible refine And.intro ?_ ?_ | with_reducible refine and_imp.2 ?_ | intro)))
 all_goals (first | (first | with_reducible rfl | with_reducible assumption | omega | (refine ai ?_ ?_ <;> omega)) | exact (jy (key:=Opn.set) (by with_reducible assumption) (by with_reducible assumption) (by with_reducible assumption)) | exact (jz (key:=Opn.set) (by with_reducible assumption) (by with_reducible assumption)) | exact (jl (key:=Opn.set) (by with_reducible assumption) (by omega)) | exact (bQ (key:=Opn.set) (by with_reducible assumption)) | exact (iU (key:=Opn.set) (by with_reducible assumption) (by with_reducible assumption) (by with_reducible assumption)) | exact (jB (key:=Opn.set) (by with_reducible assumption) (by with_reducible assumption) (by with_reducible assumption)) | exact rfl | exact Int.le_refl _ | exact (show (0:Int)<=1048576 by omega))
theorem pL (l:List Snap) (most:Int) (r0:Bool):cG aE rD (lz l most) Tryz.f132 [.c (.fz (.nm .snap) (l)),.c (.int (most)),.c (.fn 90 [] [])] [] [.c (.bool (.atom (r0)))]=((fun (q1:Nat)=>(fun (q0:Int)=>l.length*(64:Nat)<=(140737488355328:Nat)->I64 most->∃ (s0:Nat),(fun (q2:Int)=>(most=most/\q0=q2/\l=l/\(↑l.length:Int)=(↑q1:Int)/\q0=(↑s0:Int))/\(s0<=q1/\ao Snap.id most q0 (List.take s0 l)=true/\q0<=q2/\q2<=(1048576:Int))/\∀ (s:Nat),(fun (q3:Int)=>s<=q1/\ao Snap.id most q0 (List.take s l)=true/\q0<=q3/\q3<=(1048576:Int)->((↑s:Int)<(↑q1:Int)->q0<=(↑s:Int)/\(↑s:Int)<(↑l.length:Int)/\∀ (x:Snap),(fun (q4:Int)=>l[s]? = some x->I64 x.id->I64 x.set->x.chunks.length*(8:Nat)<=(140737488355328:Nat)->x.tag.b.length<=(140737488355328:Nat)->I64 x.id->I64 q4/\(aX x.id q4 most=false->false=r0)/\(aX x.id q4 most=true->I64 x.id->I64 ((↑s:Int)+(1:Int))/\∃ (s':Nat),(fun (q5:Int)=>(most=most/\x.id=q5/\l=l/\(↑q1:Int)=(↑q1:Int)/\(↑s:Int)+(1:Int)=(↑s':Int))/\(s' <= q1/\ao Snap.id most q0 (List.take s' l)=true/\q0<=q5/\q5<=(1048576:Int))/\q1 - s' < q1 - s) (aY Snap.id q0 (List.take s' l)))) (q3+(1:Int)))/\((↑q1:Int)<=(↑s:Int)->true=r0)) (aY Snap.id q0 (List.take s l))) (aY Snap.id q0 (List.take s0 l))) (0:Int)) l.length):=by kernel_rfl
theorem pJ (l:List Snap) (most:Int) (h0:most<=1048576):Sat Tryz.prog (aq aE) 132 [.c (.fz (.nm .snap) (l)),.c (.int (most)),.c (.fn 90 [] [])] [] ⟨[most<=1048576],[.c (.bool (.atom ((ao Snap.id most 0 l))))],none,false⟩:=by
 refine aO fK (lz l most) Tryz.func132 (by decide) (by kernel_rfl) ?_
 rw [pL]
 (repeat' (first | with_reducible refine And.intro ?_ ?_ | with_reducible refine and_imp.2 ?_ | intro))
 all_goals try (first | (first | with_reducible rfl | with_reducible assumption | omega | (refine ai ?_ ?_ <;> omega)) | exact (jy (key:=Snap.id) (by with_reducible assumption) (by with_reducible assumption) (by with_reducible assumption)) | exact (jz (key:=Snap.id) (by with_reducible assumption) (by with_reducible assumption)) | exact (jl (key:=Snap.id) (by with_reducible assumption) (by omega)) | exact (bQ (key:=Snap.id) (by with_reducible assumption)) | exact (iU (key:=Snap.id) (by with_reducible assumption) (by with_reducible assumption) (by with_reducible assumption)) | exact (jB (key:=Snap.id) (by with_reducible assumption) (by with_reducible assumption) (by with_reducible assumption)) | exact rfl | exact Int.le_refl _ | exact (show (0:Int)<=1048576 by omega))
 all_goals try (refine ⟨0,?_⟩; (repeat' (first | with_reducible refine And.intro ?_ ?_ | with_reducible refine and_imp.2 ?_ | intro)))
 all_goals try (first | (first | with_reducible rfl | with_reducible assumption | omega | (refine ai ?_ ?_ <;> omega)) | exact (jy (key:=Snap.id) (by with_reducible assumption) (by with_reducible assumption) (by with_reducible assumption)) | exact (jz (key:=Snap.id) (by with_reducible assumption) (by with_reducible assumption)) | exact (jl (key:=Snap.id) (by with_reducible assumption) (by omega)) | exact (bQ (key:=Snap.id) (by with_reducible assumption)) | exact (iU (key:=Snap.id) (by with_reducible assumption) (by with_reducible assumption) (by with_reducible assumption)) | exact (jB (key:=Snap.id) (by with_reducible assumption) (by with_reducible assumption) (by with_reducible assumption)) | exact rfl | exact Int.le_refl _ | exact (show (0:Int)<=1048576 by omega))
 all_goals try (refine ⟨‹Nat› + 1,?_⟩; (repeat' (first | with_reducible refine And.intro ?_ ?_ | with_reducible refine and_imp.2 ?_ | intro)))
 all_goals (first | (first | with_reducible rfl | with_reducible assumption | omega | (refine ai ?_ ?_ <;> omega)) | exact (jy (key:=Snap.id) (by with_reducible assumption) (by with_reducible assumption) (by with_reducible assumption)) | exact (jz (key:=Snap.id) (by with_reducible assumption) (by with_reducible assumption)) | exact (jl (key:=Snap.id) (by with_reducible assumption) (by omega)) | exact (bQ (key:=Snap.id) (by with_reducible assumption)) | exact (iU (key:=Snap.id) (by with_reducible assumption) (by with_reducible assumption) (by with_reducible assumption)) | exact (jB (key:=Snap.id) (by with_reducible assumption) (by with_reducible assumption) (by with_reducible assumption)) | exact rfl | exact Int.le_refl _ | exact (show (0:Int)<=1048576 by omega))
theorem Ig (x:Sess) (r0:Bool):cG aE rD [] Tryz.f113 [.agg (cellsOf (.nm .sess) x)] [] [.c (.bool (.atom (r0)))]=(I64 x.client->I64 x.seq->I64 x.last.code->I64 x.last.n->(aX x.seq (0:Int) (1048576:Int) && aX x.last.code (0:Int) (99:Int) && aX x.last.n (0:Int) (1048576:Int))=r0):=by kernel_rfl
theorem Hv (x:Sess):Sat Tryz.prog (aq aE) 113 [.agg (cellsOf (.nm .sess) x)] [] ⟨[],[.c (.bool (.atom ((aQ x))))],none,false⟩:=by
 refine aO fK [] Tryz.func113 (by decide) (by kernel_rfl) ?_
 rw [Ig]
 grind [aQ,aX]
theorem HE (x:Opn) (r0:Bool):cG aE rD [] Tryz.f117 [.agg (cellsOf (.nm .opn) x)] [] [.c (.bool (.atom (r0)))]=(I64 x.set->I64 x.client->aX x.client (1:Int) (8:Int)=r0):=by kernel_rfl
theorem HH (x:Opn):Sat Tryz.prog (aq aE) 117 [.agg (cellsOf (.nm .opn) x)] [] ⟨[],[.c (.bool (.atom ((aR x))))],none,false⟩:=by
 refine aO fK [] Tryz.func117 (by decide) (by kernel_rfl) ?_
 rw [HE]
 grind [aR,aX]
def pz:cK:=(bE 117 (bz (aj (kT (.nm .opn)) aL) aM fun (x,_) (_)=>⟨[],[.c (.bool (.atom ((aR x))))],none,false⟩) (bE 113 (bz (aj (kT (.nm .sess)) aL) aM fun (x,_) (_)=>⟨[],[.c (.bool (.atom ((aQ x))))],none,false⟩) (bE 132 (bz (aj (kC (cL (.nm .snap))) (aj (kC cI) (aj (kC (nQ 90 [] [])) aL))) aM fun (l,most,_,_) (_)=>⟨[most<=1048576],[.c (.bool (.atom ((ao Snap.id most 0 l))))],none,false⟩) (bE 114 (bz (aj (kC (cL (.nm .opn))) (aj (kC cI) (aj (kC (nQ 115 [] [])) aL))) aM fun (l,most,_,_) (_)=>⟨[most<=1048576],[.c (.bool (.atom ((ao Opn.set most 0 l))))],none,false⟩) (bE 111 (bz (aj (kC (cL (.nm .sess))) (aj (kC cI) (aj (kC (nQ 86 [] [])) aL))) aM fun (l,most,_,_) (_)=>⟨[most<=1048576],[.c (.bool (.atom ((ao Sess.client most 0 l))))],none,false⟩) (bE 146 (bz (aj (kC cU) aL) aM fun (n,_) (_)=>⟨[],[.c (.int (((a_ n.n:Int))))],none,false⟩) rD))))))
theorem eT:aV Tryz.prog (aq aE) pz:=(ax (aw (ab bf ak) al fun (x,_) (_) _=>HH x ) (ax (aw (ab bf ak) al fun (x,_) (_) _=>Hv x ) (ax (aw (ab (av bn) (ab (av ay) (ab (av cC) ak))) al fun (l,most,_,_) (_) hp=>pJ l most (dR hp)) (ax (aw (ab (av bn) (ab (av ay) (ab (av cC) ak))) al fun (l,most,_,_) (_) hp=>p_ l most (dR hp)) (ax (aw (ab (av bn) (ab (av ay) (ab (av cC) ak))) al fun (l,most,_,_) (_) hp=>qL l most (dR hp)) (ax (aw (ab (av Ge) ak) al fun (n,_) (_) _=>HM n ) fK))))))
end Go.Proofs.YtdggohppeeaipaaGreat
namespace Go.Proofs.YtdggohppeeaipaaGreat
open Go.RowKit
theorem uV {n k:Nat} (h:(k:Int)<a_ n):(dC n k).set k (UInt8.ofNat (n / 128 ^ k) ||| UInt8.ofNat 128)=dC n (k+1):=uU (by omega)
theorem pj {n k:Nat} (h1:k<=a_ n) (h2:(a_ n:Int)<=(k:Int)):(dC n k).set ((a_ n:Int) - 1).toNat ((dC n k).getD ((a_ n:Int) - 1).toNat (dflt Sh.u8) &&& UInt8.ofNat 127)=ns n:=by
 have e:k=a_ n:=by omega
 have e2:((a_ n:Int) - 1).toNat=a_ n - 1:=by omega
 have hl:=ft (n:=n) (Nat.le_refl _)
 have hp:=gU n
 subst e
 have hlt:a_ n - 1<(dC n (a_ n)).length:=by omega
 rw [e2,List.getD_eq_getElem?_getD,List.getElem?_eq_getElem hlt,Option.getD_some,tT (List.getElem?_eq_getElem hlt)]
 rfl
def Kk (n:U64):List (Nat × LI):=[(4,{ σ:=Nat,F:=fun k=>([(0,one (.u64 (n.n / 128 ^ k))),(3,one (.int (a_ n.n))),(4,one (.own 0)),(10,one (.int (a_ n.n))),(11,one (.int k))],[.row 5 .u8 ((dC n.n k))]),J:=fun k=>k<=a_ n.n,μ:=fun k=>a_ n.n - k })]
def si (l:List Sess):List (Nat × LI):=[(2,{ σ:=Nat,F:=fun k=>([(1,one (.fn 113 [] [])),(7,one (.fz (.nm .sess) (l))),(8,one (.int (l).length)),(9,one (.int k))],[]),J:=fun k=>k<=l.length/\(l.take k).all (aQ)=true,μ:=fun k=>(l).length - k })]
def sN (l:List Opn):List (Nat × LI):=[(2,{ σ:=Nat,F:=fun k=>([(1,one (.fn 117 [] [])),(7,one (.fz (.nm .opn) (l))),(8,one (.int (l).length)),(9,one (.int k))],[]),J:=fun k=>k<=l.length/\(l.take k).all (aR)=true,μ:=fun k=>(l).length - k })]
theorem JG (n:U64) (r0:List UInt8):lA aE pz (Kk n) Tryz.f143 [.c (.u64 (n).n)] [] [.c (.own 0)] [.row 5 .u8 (r0)]=((fun (q2:Nat)=>(fun (q1:Int)=>(fun (q0:Int)=>n.n<(18446744073709551616:Nat)->I64 q0->(0:Int)<=q0/\q0*(↑(1:Nat):Int)<=(140737488355328:Int)/\q0=q0/\∃ (s0:Nat),(fun (q3:Int)=>(n.n=n.n / (128:Nat) ^ s0/\q0=q0/\q0=q0/\(0:Int)=(↑s0:Int)/\List.replicate q2 (dflt Sh.u8)=dC n.n s0)/\s0<=q2/\∀ (s:Nat),(fun (q4:List UInt8)=>s<=q2->((↑s:Int)<q0->(0:Int)<=(↑s:Int)/\(↑s:Int)<(↑q4.length:Int)/\(7:Nat)<(64:Nat)/\I64 ((↑s:Int)+q1)/\∃ (s':Nat),(n.n / (128:Nat) ^ s / (2:Nat) ^ (7:Nat)=n.n / (128:Nat) ^ s' /\ q0=q0/\q0=q0/\(↑s:Int)+q1=(↑s':Int)/\q4.set s (UInt8.ofNat (n.n / (128:Nat) ^ s) ||| UInt8.ofNat (128:Nat))=dC n.n s')/\s' <= q2/\q2 - s' < q2 - s)/\(q0<=(↑s:Int)->I64 q3/\(0:Int)<=q3/\q3<(↑q4.length:Int)/\(0:Int)<=q3/\q3<(↑q4.length:Int)/\q4.set q3.toNat (q4.getD q3.toNat (dflt Sh.u8) &&& UInt8.ofNat (127:Nat))=r0)) (dC n.n s)) (q0 - q1)) (↑q2:Int)) (1:Int)) (a_ n.n)):=by kernel_rfl
theorem IQ (n:U64):Sat Tryz.prog (aq aE) 143 [.c (.u64 (n).n)] [] ⟨[],[.c (.own 0)],some ([.row 5 .u8 ((ns n.n))]),true⟩:=by
 refine cO eT (Kk n) Tryz.func143 (by decide) (by kernel_rfl) ?_
 rw [JG]
 intro hn
 have h1:=gU n.n
 have h10:=nI hn
 (repeat' (first | with_reducible refine And.intro ?_ ?_ | with_reducible refine and_imp.2 ?_ | intro))
 all_goals try (first | (first | with_reducible rfl | with_reducible assumption | omega | (refine ai ?_ ?_ <;> omega)) | exact (ie n.n) | exact (uV (by omega)) | exact (pj (by omega) (by omega)) | exact div_pow | exact (by rw [Nat.pow_zero,Nat.div_one]) | exact (by rw [ft (by omega)]; omega))
 all_goals try (refine ⟨0,?_⟩; (repeat' (first | with_reducible refine And.intro ?_ ?_ | with_reducible refine and_imp.2 ?_ | intro)))
 all_goals try (first | (first | with_reducible rfl | with_reducible assumption | omega | (refine ai ?_ ?_ <;> omega)) | exact (ie n.n) | exact (uV (by omega)) | exact (pj (by omega) (by omega)) | exact div_pow | exact (by rw [Nat.pow_zero,Nat.div_one]) | exact (by rw [ft (by omega)]; omega))
 all_goals try (refine ⟨‹Nat› + 1,?_⟩; (repeat' (first | with_reducible refine And.intro ?_ ?_ | with_reducible refine and_imp.2 ?_ | intro)))
 all_goals (first | (first | with_reducible rfl | with_reducible assumption | omega | (refine ai ?_ ?_ <;> omega)) | exact (ie n.n) | exact (uV (by omega)) | exact (pj (by omega) (by omega)) | exact div_pow | exact (by rw [Nat.pow_zero,Nat.div_one]) | exact (by rw [ft (by omega)]; omega))
theorem yp (l:List Sess) (r0:Bool):cG aE pz (si l) Tryz.f112 [.c (.fz (.nm .sess) (l)),.c (.fn 113 [] [])] [] [.c (.bool (.atom (r0)))]=((fun (q0:Nat)=>l.length*(32:Nat)<=(140737488355328:Nat)->∃ (s0:Nat),(l=l/\(↑l.length:Int)=(↑q0:Int)/\(0:Int)=(↑s0:Int))/\(s0<=q0/\(List.take s0 l).all aQ=true)/\∀ (s:Nat),s<=q0/\(List.take s l).all aQ=true->((↑s:Int)<(↑q0:Int)->(0:Int)<=(↑s:Int)/\(↑s:Int)<(↑l.length:Int)/\∀ (x:Sess),l[s]? = some x->I64 x.client->I64 x.seq->I64 x.last.code->I64 x.last.n->(aQ x=false->false=r0)/\(aQ x=true->I64 ((↑s:Int)+(1:Int))/\∃ (s':Nat),(l=l/\(↑q0:Int)=(↑q0:Int)/\(↑s:Int)+(1:Int)=(↑s':Int))/\(s' <= q0/\(List.take s' l).all aQ=true)/\q0 - s' < q0 - s))/\((↑q0:Int)<=(↑s:Int)->true=r0)) l.length):=by kernel_rfl
theorem xr (l:List Sess):Sat Tryz.prog (aq aE) 112 [.c (.fz (.nm .sess) (l)),.c (.fn 113 [] [])] [] ⟨[],[.c (.bool (.atom ((l.all (aQ)))))],none,false⟩:=by
 refine aO eT (si l) Tryz.func112 (by decide) (by kernel_rfl) ?_
 rw [yp]
 (repeat' (first | with_reducible refine And.intro ?_ ?_ | with_reducible refine and_imp.2 ?_ | intro))
 all_goals try (first | (first | with_reducible rfl | with_reducible assumption | omega | (refine ai ?_ ?_ <;> omega)) | exact (dH (p:=aQ) (by with_reducible assumption) (by with_reducible assumption) (by with_reducible assumption)) | exact (iL (p:=aQ) (by with_reducible assumption) (by with_reducible assumption)) | exact (ja (p:=aQ) (by with_reducible assumption) (by omega)) | exact rfl)
 all_goals try (refine ⟨0,?_⟩; (repeat' (first | with_reducible refine And.intro ?_ ?_ | with_reducible refine and_imp.2 ?_ | intro)))
 all_goals try (first | (first | with_reducible rfl | with_reducible assumption | omega | (refine ai ?_ ?_ <;> omega)) | exact (dH (p:=aQ) (by with_reducible assumption) (by with_reducible assumption) (by with_reducible assumption)) | exact (iL (p:=aQ) (by with_reducible assumption) (by with_reducible assumption)) | exact (ja (p:=aQ) (by with_reducible assumption) (by omega)) | exact rfl)
 all_goals try (refine ⟨‹Nat› + 1,?_⟩; (repeat' (first | with_reducible refine And.intro ?_ ?_ | with_reducible refine and_imp.2 ?_ | intro)))
 all_goals (first | (first | with_reducible rfl | with_reducible assumption | omega | (refine ai ?_ ?_ <;> omega)) | exact (dH (p:=aQ) (by with_reducible assumption) (by with_reducible assumption) (by with_reducible assumption)) | exact (iL (p:=aQ) (by with_reducible assumption) (by with_reducible assumption)) | exact (ja (p:=aQ) (by with_reducible assumption) (by omega)) | exact rfl)
theorem xg (l:List Opn) (r0:Bool):cG aE pz (sN l) Tryz.f116 [.c (.fz (.nm .opn) (l)),.c (.fn 117 [] [])] [] [.c (.bool (.atom (r0)))]=((fun (q0:Nat)=>l.length*(16:Nat)<=(140737488355328:Nat)->∃ (s0:Nat),(l=l/\(↑l.length:Int)=(↑q0:Int)/\(0:Int)=(↑s0:Int))/\(s0<=q0/\(List.take s0 l).all aR=true)/\∀ (s:Nat),s<=q0/\(List.take s l).all aR=true->((↑s:Int)<(↑q0:Int)->(0:Int)<=(↑s:Int)/\(↑s:Int)<(↑l.length:Int)/\∀ (x:Opn),l[s]? = some x->I64 x.set->I64 x.client->(aR x=false->false=r0)/\(aR x=true->I64 ((↑s:Int)+(1:Int))/\∃ (s':Nat),(l=l/\(↑q0:Int)=(↑q0:Int)/\(↑s:Int)+(1:Int)=(↑s':Int))/\(s' <= q0/\(List.take s' l).all aR=true)/\q0 - s' < q0 - s))/\((↑q0:Int)<=(↑s:Int)->true=r0)) l.length):=by kernel_rfl
theorem xB (l:List Opn):Sat Tryz.prog (aq aE) 116 [.c (.fz (.nm .opn) (l)),.c (.fn 117 [] [])] [] ⟨[],[.c (.bool (.atom ((l.all (aR)))))],none,false⟩:=by
 refine aO eT (sN l) Tryz.func116 (by decide) (by kernel_rfl) ?_
 rw [xg]
 (repeat' (first | with_reducible refine And.intro ?_ ?_ | with_reducible refine and_imp.2 ?_ | intro))
 all_goals try (first | (first | with_reducible rfl | with_reducible assumption | omega | (refine ai ?_ ?_ <;> omega)) | exact (dH (p:=aR) (by with_reducible assumption) (by with_reducible assumption) (by with_reducible assumption)) | exact (iL (p:=aR) (by with_reducible assumption) (by with_reducible assumption)) | exact (ja (p:=aR) (by with_reducible assumption) (by omega)) | exact rfl)
 all_goals try (refine ⟨0,?_⟩; (repeat' (first | with_reducible refine And.intro ?_ ?_ | with_reducible refine and_imp.2 ?_ | intro)))
 all_goals try (first | (first | with_reducible rfl | with_reducible assumption | omega | (refine ai ?_ ?_ <;> omega)) | exact (dH (p:=aR) (by with_reducible assumption) (by with_reducible assumption) (by with_reducible assumption)) | exact (iL (p:=aR) (by with_reducible assumption) (by with_reducible assumption)) | exact (ja (p:=aR) (by with_reducible assumption) (by omega)) | exact rfl)
 all_goals try (refine ⟨‹Nat› + 1,?_⟩; (repeat' (first | with_reducible refine And.intro ?_ ?_ | with_reducible refine and_imp.2 ?_ | intro)))
 all_goals (first | (first | with_reducible rfl | with_reducible assumption | omega | (refine ai ?_ ?_ <;> omega)) | exact (dH (p:=aR) (by with_reducible assumption) (by with_reducible assumption) (by with_reducible assumption)) | exact (iL (p:=aR) (by with_reducible assumption) (by with_reducible assumption)) | exact (ja (p:=aR) (by with_reducible assumption) (by omega)) | exact rfl)
theorem qx (l:List Sess) (r0:List Sess):lA aE pz [] Tryz.f80 [.c (.fz (.nm .sess) (l))] [] [.c (.own 0)] [.row 44 (.nm .sess) (r0)]=((fun (q0:Prop)=>q0->∀ (b:Bool),(b=true->l=[])->(b=true->r0=[])/\(b=false->q0/\l=r0)) (l.length*(32:Nat)<=(140737488355328:Nat))):=by kernel_rfl
theorem pM (l:List Sess):Sat Tryz.prog (aq aE) 80 [.c (.fz (.nm .sess) (l))] [] ⟨[],[.c (.own 0)],some ([.row 44 (.nm .sess) ((l))]),true⟩:=by
 refine cO eT [] Tryz.func80 (by decide) (by kernel_rfl) ?_
 rw [qx]
 exact fun h b hb=>⟨hb,fun _=>⟨h,rfl⟩⟩
theorem te (l:List Opn) (r0:List Opn):lA aE pz [] Tryz.f81 [.c (.fz (.nm .opn) (l))] [] [.c (.own 0)] [.row 77 (.nm .opn) (r0)]=((fun (q0:Prop)=>q0->∀ (b:Bool),(b=true->l=[])->(b=true->r0=[])/\(b=false->q0/\l=r0)) (l.length*(16:Nat)<=(140737488355328:Nat))):=by kernel_rfl
theorem tK (l:List Opn):Sat Tryz.prog (aq aE) 81 [.c (.fz (.nm .opn) (l))] [] ⟨[],[.c (.own 0)],some ([.row 77 (.nm .opn) ((l))]),true⟩:=by
 refine cO eT [] Tryz.func81 (by decide) (by kernel_rfl) ?_
 rw [te]
 exact fun h b hb=>⟨hb,fun _=>⟨h,rfl⟩⟩
theorem pQ (l:List Snap) (r0:List Snap):lA aE pz [] Tryz.f82 [.c (.fz (.nm .snap) (l))] [] [.c (.own 0)] [.row 59 (.nm .snap) (r0)]=((fun (q0:Prop)=>q0->∀ (b:Bool),(b=true->l=[])->(b=true->r0=[])/\(b=false->q0/\l=r0)) (l.length*(64:Nat)<=(140737488355328:Nat))):=by kernel_rfl
theorem qy (l:List Snap):Sat Tryz.prog (aq aE) 82 [.c (.fz (.nm .snap) (l))] [] ⟨[],[.c (.own 0)],some ([.row 59 (.nm .snap) ((l))]),true⟩:=by
 refine cO eT [] Tryz.func82 (by decide) (by kernel_rfl) ?_
 rw [pQ]
 exact fun h b hb=>⟨hb,fun _=>⟨h,rfl⟩⟩
theorem qZ (l:List Int) (r0:List Int):cG aE pz [] Tryz.f83 [.c (.fz .int (l))] [] [.c (.fz .int (r0))]=((fun (q0:Prop)=>q0->∀ (b:Bool),(b=true->l=[])->(b=true->r0=[])/\(b=false->q0/\l=r0)) (l.length*(8:Nat)<=(140737488355328:Nat))):=by kernel_rfl
theorem sj (l:List Int):Sat Tryz.prog (aq aE) 83 [.c (.fz .int (l))] [] ⟨[],[.c (.fz .int ((l)))],none,false⟩:=by
 refine aO eT [] Tryz.func83 (by decide) (by kernel_rfl) ?_
 rw [qZ]
 intros; repeat' (first | refine And.intro ?_ ?_ | intro)
 all_goals first | rfl | assumption | simp_all
def rf:cK:=(bE 83 (bz (aj (kC (cL .int)) aL) aM fun (l,_) (_)=>⟨[],[.c (.fz .int ((l)))],none,false⟩) (bE 82 (bz (aj (kC (cL (.nm .snap))) aL) aM fun (l,_) (_)=>⟨[],[.c (.own 0)],some ([.row 59 (.nm .snap) ((l))]),true⟩) (bE 81 (bz (aj (kC (cL (.nm .opn))) aL) aM fun (l,_) (_)=>⟨[],[.c (.own 0)],some ([.row 77 (.nm .opn) ((l))]),true⟩) (bE 80 (bz (aj (kC (cL (.nm .sess))) aL) aM fun (l,_) (_)=>⟨[],[.c (.own 0)],some ([.row 44 (.nm .sess) ((l))]),true⟩) (bE 116 (bz (aj (kC (cL (.nm .opn))) (aj (kC (nQ 117 [] [])) aL)) aM fun (l,_,_) (_)=>⟨[],[.c (.bool (.atom ((l.all (aR)))))],none,false⟩) (bE 112 (bz (aj (kC (cL (.nm .sess))) (aj (kC (nQ 113 [] [])) aL)) aM fun (l,_,_) (_)=>⟨[],[.c (.bool (.atom ((l.all (aQ)))))],none,false⟩) (bE 143 (bz (aj (kC cU) aL) aM fun (n,_) (_)=>⟨[],[.c (.own 0)],some ([.row 5 .u8 ((ns n.n))]),true⟩) pz)))))))
theorem fI:aV Tryz.prog (aq aE) rf:=(ax (aw (ab (av bn) ak) al fun (l,_) (_) _=>sj l ) (ax (aw (ab (av bn) ak) al fun (l,_) (_) _=>qy l ) (ax (aw (ab (av bn) ak) al fun (l,_) (_) _=>tK l ) (ax (aw (ab (av bn) ak) al fun (l,_) (_) _=>pM l ) (ax (aw (ab (av bn) (ab (av cC) ak)) al fun (l,_,_) (_) _=>xB l ) (ax (aw (ab (av bn) (ab (av cC) ak)) al fun (l,_,_) (_) _=>xr l ) (ax (aw (ab (av Ge) ak) al fun (n,_) (_) _=>IQ n ) eT)))))))
end Go.Proofs.YtdggohppeeaipaaGreat
namespace Go.Proofs.YtdggohppeeaipaaGreat
open Go.RowKit
theorem uk {x:Int} {l:List Int} {k:Nat} (h:fg x (l.take k) = -1) (hk:l.length<=k):-1=fg x l:=by rw [List.take_of_length_le hk] at h; exact h.symm
theorem qc {x y:Int} {l:List Int} {k:Nat} (h:fg x (l.take k) = -1) (hy:l[k]? = some y) (e:x=y):(k:Int)=fg x l:=by
 refine AW (fun j z hj hz hc=>?_) hy e
 have hm:z ∈ l.take k:=by
  obtain ⟨h1,h2⟩:=List.getElem?_eq_some_iff.1 hz
  rw [List.mem_take_iff_getElem]; exact ⟨j,by omega,h2⟩
 have:decide (0<=fg x (l.take k))=true:=by rw [wc,List.contains_iff_mem,hc]; exact hm
 rw [decide_eq_true_eq] at this; omega
theorem uI {x y:Int} {l:List Int} {k:Nat} (h:fg x (l.take k) = -1) (hy:l[k]? = some y) (e:¬ x=y):fg x (l.take (k+1)) = -1:=by
 have h0:(l.take k).contains x=false:=by
  have:=wc x (l.take k)
  rw [<- this,h]; decide
 have h1:(l.take (k+1)).contains x=false:=by
  rw [az hy,<- Bool.not_eq_true,List.contains_iff_mem] at *
  intro hm
  rcases List.mem_append.1 hm with hm | hm
  ·exact h0 hm
  ·exact e (List.mem_singleton.1 hm)
 rw [<- wc,decide_eq_false_iff_not] at h1
 unfold fg at h1 ⊢
 split
 ·rename_i i hi; rw [hi] at h1; dsimp only at h1; omega
 ·rfl
theorem GY {l:List Int} {k:Nat} {x:Int} (hr:ct l=true) (hx:l[k]? = some x):0<=x:=Int.le_of_lt (uA hr x (List.mem_of_getElem? hx)).1
theorem uq {l:List Int} {k:Nat} {x:Int} (hr:ct l=true) (hx:l[k]? = some x):((eD (l.take k)).length+(ns x.toNat).length)*1<=140737488355328:=by
 have h1:=Ch (l:=l.take k) (fun x hx=>(uA hr x (List.mem_of_mem_take hx)).2)
 have h2:=pq hr
 have h3:=uA hr x (List.mem_of_getElem? hx)
 have h4:=mY (n:=x.toNat) (by omega)
 rw [List.length_take] at h1; omega
def B_ (l:List Int) (x:Int):List (Nat × LI):=[(2,{ σ:=Nat,F:=fun k=>([(0,one (.fz .int (l))),(1,one (.int (x))),(7,one (.int (l).length)),(8,one (.int k))],[]),J:=fun k=>k<=l.length/\fg x (l.take k) = -1,μ:=fun k=>(l).length - k })]
def wN (l:List Int):List (Nat × LI):=[(5,{ σ:=Nat,F:=fun k=>([(4,one (.own 0)),(10,one (.fz .int (l))),(11,one (.int (l).length)),(12,one (.int k))],[.row 5 .u8 ((eD (l.take k)))]),J:=fun k=>k<=l.length/\ct l=true,μ:=fun k=>(l).length - k })]
theorem ED (l:List Int) (x:Int) (r0:Int):cG aE rf (B_ l x) Tryz.f144 [.c (.fz .int (l)),.c (.int (x))] [] [.c (.int (r0))]=((fun (q1:Int)=>(fun (q0:Nat)=>l.length*(8:Nat)<=(140737488355328:Nat)->I64 x->∃ (s0:Nat),(l=l/\x=x/\(↑l.length:Int)=(↑q0:Int)/\(0:Int)=(↑s0:Int))/\(s0<=q0/\fg x (List.take s0 l) = -q1)/\∀ (s:Nat),s<=q0/\fg x (List.take s l) = -q1->((↑s:Int)<(↑q0:Int)->(0:Int)<=(↑s:Int)/\(↑s:Int)<(↑l.length:Int)/\∀ (x_1:Int),l[s]? = some x_1->I64 x_1->(x=x_1->(↑s:Int)=r0)/\(¬x=x_1->I64 ((↑s:Int)+q1)/\∃ (s':Nat),(l=l/\x=x/\(↑q0:Int)=(↑q0:Int)/\(↑s:Int)+q1=(↑s':Int))/\(s' <= q0/\fg x (List.take s' l) = -q1)/\q0 - s' < q0 - s))/\((↑q0:Int)<=(↑s:Int) -> -q1=r0)) l.length) (1:Int)):=by kernel_rfl
theorem Db (l:List Int) (x:Int):Sat Tryz.prog (aq aE) 144 [.c (.fz .int (l)),.c (.int (x))] [] ⟨[],[.c (.int ((fg x l)))],none,false⟩:=by
 refine aO fI (B_ l x) Tryz.func144 (by decide) (by kernel_rfl) ?_
 rw [ED]
 (repeat' (first | with_reducible refine And.intro ?_ ?_ | with_reducible refine and_imp.2 ?_ | intro))
 all_goals try (first | (first | with_reducible rfl | with_reducible assumption | omega | (refine ai ?_ ?_ <;> omega)) | exact rfl | exact (uk (by with_reducible assumption) (by omega)) | exact (qc (by with_reducible assumption) (by with_reducible assumption) (by with_reducible assumption)) | exact (uI (by with_reducible assumption) (by with_reducible assumption) (by with_reducible assumption)))
 all_goals try (refine ⟨0,?_⟩; (repeat' (first | with_reducible refine And.intro ?_ ?_ | with_reducible refine and_imp.2 ?_ | intro)))
 all_goals try (first | (first | with_reducible rfl | with_reducible assumption | omega | (refine ai ?_ ?_ <;> omega)) | exact rfl | exact (uk (by with_reducible assumption) (by omega)) | exact (qc (by with_reducible assumption) (by with_reducible assumption) (by with_reducible assumption)) | exact (uI (by with_reducible assumption) (by with_reducible assumption) (by with_reducible assumption)))
 all_goals try (refine ⟨‹Nat› + 1,?_⟩; (repeat' (first | with_reducible refine And.intro ?_ ?_ | with_reducible refine and_imp.2 ?_ | intro)))
 all_goals (first | (first | with_reducible rfl | with_reducible assumption | omega | (refine ai ?_ ?_ <;> omega)) | exact rfl | exact (uk (by with_reducible assumption) (by omega)) | exact (qc (by with_reducible assumption) (by with_reducible assumption) (by with_reducible assumption)) | exact (uI (by with_reducible assumption) (by with_reducible assumption) (by with_reducible assumption)))
theorem Ei (n:Int) (most:Int) (named:Bool) (r0:Bool):cG aE rf [] Tryz.f138 [.c (.int (n)),.c (.int (most)),.c (.bool (.atom (named)))] [] [.c (.bool (.atom (r0)))]=(I64 n->I64 most->(named=true->(decide ((1:Int)<=n) && decide (n<=most))=r0)/\(named=false->decide (n=(0:Int))=r0)):=by kernel_rfl
theorem CR (n:Int) (most:Int) (named:Bool):Sat Tryz.prog (aq aE) 138 [.c (.int (n)),.c (.int (most)),.c (.bool (.atom (named)))] [] ⟨[],[.c (.bool (.atom ((ic n most named))))],none,false⟩:=by
 refine aO fI [] Tryz.func138 (by decide) (by kernel_rfl) ?_
 rw [Ei]
 grind [ic]
theorem AZ (l:List Int) (r0:List UInt8) (r1:Int):cG aE rf (wN l) Tryz.f135 [.c (.fz .int (l))] [] [.c (.fz .u8 (r0)),.c (.int (r1))]=((fun (q1:Prop)=>(fun (q0:Nat)=>l.length*(8:Nat)<=(140737488355328:Nat)->(ct l=false->r0=[]/\(1:Int)=r1)/\(q1->∃ (s0:Nat),(l=l/\(↑l.length:Int)=(↑q0:Int)/\(0:Int)=(↑s0:Int)/\eD (List.take s0 l)=[])/\(s0<=q0/\q1)/\∀ (s:Nat),s<=q0/\q1->((↑s:Int)<(↑q0:Int)->(0:Int)<=(↑s:Int)/\(↑s:Int)<(↑l.length:Int)/\∀ (x:Int),l[s]? = some x->I64 x->(0:Int)<=x/\((eD (List.take s l)).length+(ns x.toNat).length)*(1:Nat)<=(140737488355328:Nat)/\I64 ((↑s:Int)+(1:Int))/\∃ (s':Nat),(l=l/\(↑q0:Int)=(↑q0:Int)/\(↑s:Int)+(1:Int)=(↑s':Int)/\eD (List.take s l)++ns x.toNat=eD (List.take s' l))/\(s' <= q0/\q1)/\q0 - s' < q0 - s)/\((↑q0:Int)<=(↑s:Int)->eD (List.take s l)=r0/\(0:Int)=r1))) l.length) (ct l=true)):=by kernel_rfl
theorem AG (l:List Int):Sat Tryz.prog (aq aE) 135 [.c (.fz .int (l))] [] ⟨[],[.c (.fz .u8 ((fR l))),.c (.int ((dp l)))],none,false⟩:=by
 refine aO fI (wN l) Tryz.func135 (by decide) (by kernel_rfl) ?_
 rw [AZ]
 (repeat' (first | with_reducible refine And.intro ?_ ?_ | with_reducible refine and_imp.2 ?_ | intro))
 all_goals try (first | (first | with_reducible rfl | with_reducible assumption | omega | (refine ai ?_ ?_ <;> omega)) | exact rfl | exact (ku (by with_reducible assumption)).symm | exact (eI (by with_reducible assumption)) | exact (eR (by with_reducible assumption)) | exact (mw (by with_reducible assumption) (by omega)) | exact (ki (by with_reducible assumption)) | exact (GY (by with_reducible assumption) (by with_reducible assumption)) | exact (uq (by with_reducible assumption) (by with_reducible assumption)))
 all_goals try (refine ⟨0,?_⟩; (repeat' (first | with_reducible refine And.intro ?_ ?_ | with_reducible refine and_imp.2 ?_ | intro)))
 all_goals try (first | (first | with_reducible rfl | with_reducible assumption | omega | (refine ai ?_ ?_ <;> omega)) | exact rfl | exact (ku (by with_reducible assumption)).symm | exact (eI (by with_reducible assumption)) | exact (eR (by with_reducible assumption)) | exact (mw (by with_reducible assumption) (by omega)) | exact (ki (by with_reducible assumption)) | exact (GY (by with_reducible assumption) (by with_reducible assumption)) | exact (uq (by with_reducible assumption) (by with_reducible assumption)))
 all_goals try (refine ⟨‹Nat› + 1,?_⟩; (repeat' (first | with_reducible refine And.intro ?_ ?_ | with_reducible refine and_imp.2 ?_ | intro)))
 all_goals (first | (first | with_reducible rfl | with_reducible assumption | omega | (refine ai ?_ ?_ <;> omega)) | exact rfl | exact (ku (by with_reducible assumption)).symm | exact (eI (by with_reducible assumption)) | exact (eR (by with_reducible assumption)) | exact (mw (by with_reducible assumption) (by omega)) | exact (ki (by with_reducible assumption)) | exact (GY (by with_reducible assumption) (by with_reducible assumption)) | exact (uq (by with_reducible assumption) (by with_reducible assumption)))
theorem BS (s:State) (x:Int) (r0:Int):cG aE rf [] Tryz.f35 [.agg (cellsOf (.nm .state) s),.c (.int (x))] [] [.c (.int (r0))]=(I64 s.version->I64 s.next->I64 s.keep->I64 s.quota->s.sess.length*(32:Nat)<=(140737488355328:Nat)->s.opens.length*(16:Nat)<=(140737488355328:Nat)->s.snaps.length*(64:Nat)<=(140737488355328:Nat)->I64 x->I64 (ag Sess.client x s.sess)->ag Sess.client x s.sess=r0):=by kernel_rfl
theorem zr (s:State) (x:Int):Sat Tryz.prog (aq aE) 35 [.agg (cellsOf (.nm .state) s),.c (.int (x))] [] ⟨[],[.c (.int ((ag Sess.client x s.sess)))],none,false⟩:=by
 refine aO fI [] Tryz.func35 (by decide) (by kernel_rfl) ?_
 rw [BS]
 grind
theorem Ai (s:State) (x:Int) (r0:Int):cG aE rf [] Tryz.f91 [.agg (cellsOf (.nm .state) s),.c (.int (x))] [] [.c (.int (r0))]=(I64 s.version->I64 s.next->I64 s.keep->I64 s.quota->s.sess.length*(32:Nat)<=(140737488355328:Nat)->s.opens.length*(16:Nat)<=(140737488355328:Nat)->s.snaps.length*(64:Nat)<=(140737488355328:Nat)->I64 x->I64 (ag Opn.set x s.opens)->ag Opn.set x s.opens=r0):=by kernel_rfl
theorem yF (s:State) (x:Int):Sat Tryz.prog (aq aE) 91 [.agg (cellsOf (.nm .state) s),.c (.int (x))] [] ⟨[],[.c (.int ((ag Opn.set x s.opens)))],none,false⟩:=by
 refine aO fI [] Tryz.func91 (by decide) (by kernel_rfl) ?_
 rw [Ai]
 grind
theorem A_ (s:State) (x:Int) (r0:Int):cG aE rf [] Tryz.f43 [.agg (cellsOf (.nm .state) s),.c (.int (x))] [] [.c (.int (r0))]=(I64 s.version->I64 s.next->I64 s.keep->I64 s.quota->s.sess.length*(32:Nat)<=(140737488355328:Nat)->s.opens.length*(16:Nat)<=(140737488355328:Nat)->s.snaps.length*(64:Nat)<=(140737488355328:Nat)->I64 x->I64 (ag Snap.id x s.snaps)->ag Snap.id x s.snaps=r0):=by kernel_rfl
theorem BR (s:State) (x:Int):Sat Tryz.prog (aq aE) 43 [.agg (cellsOf (.nm .state) s),.c (.int (x))] [] ⟨[],[.c (.int ((ag Snap.id x s.snaps)))],none,false⟩:=by
 refine aO fI [] Tryz.func43 (by decide) (by kernel_rfl) ?_
 rw [A_]
 grind
def Dw:cK:=(bE 43 (bz (aj (kT (.nm .state)) (aj (kC cI) aL)) aM fun (s,x,_) (_)=>⟨[],[.c (.int ((ag Snap.id x s.snaps)))],none,false⟩) (bE 91 (bz (aj (kT (.nm .state)) (aj (kC cI) aL)) aM fun (s,x,_) (_)=>⟨[],[.c (.int ((ag Opn.set x s.opens)))],none,false⟩) (bE 35 (bz (aj (kT (.nm .state)) (aj (kC cI) aL)) aM fun (s,x,_) (_)=>⟨[],[.c (.int ((ag Sess.client x s.sess)))],none,false⟩) (bE 135 (bz (aj (kC (cL .int)) aL) aM fun (l,_) (_)=>⟨[],[.c (.fz .u8 ((fR l))),.c (.int ((dp l)))],none,false⟩) (bE 138 (bz (aj (kC cI) (aj (kC cI) (aj (kC cB) aL))) aM fun (n,most,named,_) (_)=>⟨[],[.c (.bool (.atom ((ic n most named))))],none,false⟩) (bE 144 (bz (aj (kC (cL .int)) (aj (kC cI) aL)) aM fun (l,x,_) (_)=>⟨[],[.c (.int ((fg x l)))],none,false⟩) rf))))))
theorem qg:aV Tryz.prog (aq aE) Dw:=(ax (aw (ab bf (ab (av ay) ak)) al fun (s,x,_) (_) _=>BR s x ) (ax (aw (ab bf (ab (av ay) ak)) al fun (s,x,_) (_) _=>yF s x ) (ax (aw (ab bf (ab (av ay) ak)) al fun (s,x,_) (_) _=>zr s x ) (ax (aw (ab (av bn) ak) al fun (l,_) (_) _=>AG l ) (ax (aw (ab (av ay) (ab (av ay) (ab (av oY) ak))) al fun (n,most,named,_) (_) _=>CR n most named ) (ax (aw (ab (av bn) (ab (av ay) ak)) al fun (l,x,_) (_) _=>Db l x ) fI))))))
end Go.Proofs.YtdggohppeeaipaaGreat
namespace Go.Proofs.YtdggohppeeaipaaGreat
open Go.RowKit
theorem um (l:List Int) (x:Int) (r0:Bool):cG aE Dw [] Tryz.f137 [.c (.fz .int (l)),.c (.int (x))] [] [.c (.bool (.atom (r0)))]=(l.length*(8:Nat)<=(140737488355328:Nat)->I64 x->I64 (fg x l)->decide ((0:Int)<=fg x l)=r0):=by kernel_rfl
theorem uO (l:List Int) (x:Int):Sat Tryz.prog (aq aE) 137 [.c (.fz .int (l)),.c (.int (x))] [] ⟨[],[.c (.bool (.atom ((l.contains x))))],none,false⟩:=by
 refine aO qg [] Tryz.func137 (by decide) (by kernel_rfl) ?_
 rw [um]
 intros; exact wc _ _
theorem BU (x:Snap) (v:Int) (t:Int) (r0:Bool):cG aE Dw [] Tryz.f134 [.agg (cellsOf (.nm .snap) x),.c (.ptr 0 0),.c (.ptr 1 0)] [.box 3 ([.int (v)]),.box 3 ([.int (t)])] [.c (.bool (.atom (r0)))]=(I64 x.id->I64 x.set->x.chunks.length*(8:Nat)<=(140737488355328:Nat)->x.tag.b.length<=(140737488355328:Nat)->(fR x.chunks).length*(1:Nat)<=(140737488355328:Nat)->I64 (dp x.chunks)->(decide (dp x.chunks=(0:Int)) && aX x.set (1:Int) (8:Int) && (!x.held || decide ((2:Int)<=v)) && decide ((↑x.tag.b.length:Int)<=t))=r0):=by kernel_rfl
theorem CH (x:Snap) (v:Int) (t:Int):Sat Tryz.prog (aq aE) 134 [.agg (cellsOf (.nm .snap) x),.c (.ptr 0 0),.c (.ptr 1 0)] [.box 3 ([.int (v)]),.box 3 ([.int (t)])] ⟨[],[.c (.bool (.atom ((bN v t x))))],none,false⟩:=by
 refine aO qg [] Tryz.func134 (by decide) (by kernel_rfl) ?_
 rw [BU]
 intros; rfl
def Ez:cK:=(bE 134 (bz (aj (kT (.nm .snap)) (aj (kC (bW 0 0)) (aj (kC (bW 1 0)) aL))) (aB (bU 3 (au cI bS)) (aB (bU 3 (au cI bS)) aM)) fun (x,_,_,_) ((v,_),(t,_),_)=>⟨[],[.c (.bool (.atom ((bN v t x))))],none,false⟩) (bE 137 (bz (aj (kC (cL .int)) (aj (kC cI) aL)) aM fun (l,x,_) (_)=>⟨[],[.c (.bool (.atom ((l.contains x))))],none,false⟩) Dw))
theorem px:aV Tryz.prog (aq aE) Ez:=(ax (aw (ab bf (ab (av aK) (ab (av aK) ak))) (ah (aI (ae ay aH)) (ah (aI (ae ay aH)) al)) fun (x,_,_,_) ((v,_),(t,_),_) _=>CH x v t ) (ax (aw (ab (av bn) (ab (av ay) ak)) al fun (l,x,_) (_) _=>uO l x ) qg))
end Go.Proofs.YtdggohppeeaipaaGreat
namespace Go.Proofs.YtdggohppeeaipaaGreat
open Go.RowKit
def rT (l:List Snap) (v:Int) (t:Int):List (Nat × LI):=[(2,{ σ:=Nat,F:=fun k=>([(1,one (.fn 134 [] [(0,0),(1,0)])),(7,one (.fz (.nm .snap) (l))),(8,one (.int (l).length)),(9,one (.int k))],[.box 3 ([.int ((v))]),.box 3 ([.int ((t))])]),J:=fun k=>k<=l.length/\(l.take k).all ((bN v t))=true,μ:=fun k=>(l).length - k })]
theorem Dv (l:List Int) (c:Command) (r0:Bool):cG aE Ez [] Tryz.f136 [.c (.fz .int (l)),.c (.ptr 0 0)] [.box 29 (cellsOf (.nm .command) (c))] [.c (.bool (.atom (r0)))]=(l.length*(8:Nat)<=(140737488355328:Nat)->l.contains c.kind=r0):=by kernel_rfl
theorem CP (l:List Int) (c:Command):Sat Tryz.prog (aq aE) 136 [.c (.fz .int (l)),.c (.ptr 0 0)] [.box 29 (cellsOf (.nm .command) (c))] ⟨[],[.c (.bool (.atom ((l.contains c.kind))))],none,false⟩:=by
 refine aO px [] Tryz.func136 (by decide) (by kernel_rfl) ?_
 rw [Dv]
 grind
theorem yn (l:List Snap) (v:Int) (t:Int) (r0:Bool):cG aE Ez (rT l v t) Tryz.f133 [.c (.fz (.nm .snap) (l)),.c (.fn 134 [] [(0,0),(1,0)])] [.box 3 ([.int (v)]),.box 3 ([.int (t)])] [.c (.bool (.atom (r0)))]=((fun (q0:Nat)=>l.length*(64:Nat)<=(140737488355328:Nat)->∃ (s0:Nat),(l=l/\(↑l.length:Int)=(↑q0:Int)/\(0:Int)=(↑s0:Int)/\v=v/\t=t)/\(s0<=q0/\(List.take s0 l).all (bN v t)=true)/\∀ (s:Nat),s<=q0/\(List.take s l).all (bN v t)=true->((↑s:Int)<(↑q0:Int)->(0:Int)<=(↑s:Int)/\(↑s:Int)<(↑l.length:Int)/\∀ (x:Snap),l[s]? = some x->I64 x.id->I64 x.set->x.chunks.length*(8:Nat)<=(140737488355328:Nat)->x.tag.b.length<=(140737488355328:Nat)->(bN v t x=false->false=r0)/\(bN v t x=true->I64 ((↑s:Int)+(1:Int))/\∃ (s':Nat),(l=l/\(↑q0:Int)=(↑q0:Int)/\(↑s:Int)+(1:Int)=(↑s':Int)/\v=v/\t=t)/\(s' <= q0/\(List.take s' l).all (bN v t)=true)/\q0 - s' < q0 - s))/\((↑q0:Int)<=(↑s:Int)->true=r0)) l.length):=by kernel_rfl
theorem wV (l:List Snap) (v:Int) (t:Int):Sat Tryz.prog (aq aE) 133 [.c (.fz (.nm .snap) (l)),.c (.fn 134 [] [(0,0),(1,0)])] [.box 3 ([.int (v)]),.box 3 ([.int (t)])] ⟨[],[.c (.bool (.atom ((l.all ((bN v t))))))],none,false⟩:=by
 refine aO px (rT l v t) Tryz.func133 (by decide) (by kernel_rfl) ?_
 rw [yn]
 (repeat' (first | with_reducible refine And.intro ?_ ?_ | with_reducible refine and_imp.2 ?_ | intro))
 all_goals try (first | (first | with_reducible rfl | with_reducible assumption | omega | (refine ai ?_ ?_ <;> omega)) | exact (dH (p:=(bN v t)) (by with_reducible assumption) (by with_reducible assumption) (by with_reducible assumption)) | exact (iL (p:=(bN v t)) (by with_reducible assumption) (by with_reducible assumption)) | exact (ja (p:=(bN v t)) (by with_reducible assumption) (by omega)) | exact rfl)
 all_goals try (refine ⟨0,?_⟩; (repeat' (first | with_reducible refine And.intro ?_ ?_ | with_reducible refine and_imp.2 ?_ | intro)))
 all_goals try (first | (first | with_reducible rfl | with_reducible assumption | omega | (refine ai ?_ ?_ <;> omega)) | exact (dH (p:=(bN v t)) (by with_reducible assumption) (by with_reducible assumption) (by with_reducible assumption)) | exact (iL (p:=(bN v t)) (by with_reducible assumption) (by with_reducible assumption)) | exact (ja (p:=(bN v t)) (by with_reducible assumption) (by omega)) | exact rfl)
 all_goals try (refine ⟨‹Nat› + 1,?_⟩; (repeat' (first | with_reducible refine And.intro ?_ ?_ | with_reducible refine and_imp.2 ?_ | intro)))
 all_goals (first | (first | with_reducible rfl | with_reducible assumption | omega | (refine ai ?_ ?_ <;> omega)) | exact (dH (p:=(bN v t)) (by with_reducible assumption) (by with_reducible assumption) (by with_reducible assumption)) | exact (iL (p:=(bN v t)) (by with_reducible assumption) (by with_reducible assumption)) | exact (ja (p:=(bN v t)) (by with_reducible assumption) (by omega)) | exact rfl)
def Eg:cK:=(bE 133 (bz (aj (kC (cL (.nm .snap))) (aj (kC (nQ 134 [] [(0,0),(1,0)])) aL)) (aB (bU 3 (au cI bS)) (aB (bU 3 (au cI bS)) aM)) fun (l,_,_) ((v,_),(t,_),_)=>⟨[],[.c (.bool (.atom ((l.all ((bN v t))))))],none,false⟩) (bE 136 (bz (aj (kC (cL .int)) (aj (kC (bW 0 0)) aL)) (aB (bU 29 (qQ (.nm .command) bS)) aM) fun (l,_,_) ((c,_),_)=>⟨[],[.c (.bool (.atom ((l.contains c.kind))))],none,false⟩) Ez))
theorem qK:aV Tryz.prog (aq aE) Eg:=(ax (aw (ab (av bn) (ab (av cC) ak)) (ah (aI (ae ay aH)) (ah (aI (ae ay aH)) al)) fun (l,_,_) ((v,_),(t,_),_) _=>wV l v t ) (ax (aw (ab (av bn) (ab (av aK) ak)) (ah (aI (de aH)) al) fun (l,_,_) ((c,_),_) _=>CP l c ) px))
end Go.Proofs.YtdggohppeeaipaaGreat
namespace Go.Proofs.YtdggohppeeaipaaGreat
open Go.RowKit
theorem Jc (k:Int):(if k=12 then some (Span.mk 0 64) else if k=8 then some (Span.mk 2 3) else if k=6 then some (Span.mk 0 8) else none).getD (dflt (.nm .span))=⟨(gC k).1,(gC k).2⟩:=by
 by_cases h1:k=12
 ·subst h1; rfl
 ·by_cases h2:k=8
  ·subst h2; rfl
  ·by_cases h3:k=6
   ·subst h3; rfl
   ·simp [gC,kS,h1,h2,h3,dflt]; rfl
theorem HI (c:Command) (r0:Bool):cG aE Eg [] Tryz.f121 [.agg (cellsOf (.nm .command) c)] [] [.c (.bool (.atom (r0)))]=((fun (q9:Int)=>(fun (q8:Int)=>(fun (q7:Prop)=>(fun (q6:Bool)=>(fun (q5:Bool)=>(fun (q4:Bool)=>(fun (q3:Prop)=>(fun (q2:Prop)=>(fun (q1:Prop)=>(fun (q0:den (Sh.nm NT.span))=>I64 q8->I64 c.client->I64 c.seq->I64 c.set->I64 c.id->I64 c.n->c.chunks.length*(8:Nat)<=(140737488355328:Nat)->c.text.b.length<=(140737488355328:Nat)->(q8=(3:Int)->((decide (q0.lo<=c.n) && decide (c.n<=q0.hi))=true->(ct c.chunks=true->(q7->q1)/\(¬q7->q2))/\(ct c.chunks=false->q2))/\((decide (q0.lo<=c.n) && decide (c.n<=q0.hi))=false->q2))/\(¬q8=(3:Int)->(q8=(11:Int)->((decide (q0.lo<=c.n) && decide (c.n<=q0.hi))=true->(q3->((↑c.text.b.length:Int)<=(16:Int)->q1)/\((16:Int)<(↑c.text.b.length:Int)->q2))/\(¬q3->q2))/\((decide (q0.lo<=c.n) && decide (c.n<=q0.hi))=false->q2))/\(¬q8=(11:Int)->((decide (q0.lo<=c.n) && decide (c.n<=q0.hi))=true->(q3->(q7->q1)/\(¬q7->q2))/\(¬q3->q2))/\((decide (q0.lo<=c.n) && decide (c.n<=q0.hi))=false->q2)))) (((fun (j:Int)=>if j=(12:Int) then some (Span.mk (0:Int) (64:Int)) else (fun (j:Int)=>if j=q9 then some (Span.mk (2:Int) (3:Int)) else (fun (j:Int)=>if j=(6:Int) then some (Span.mk (0:Int) q9) else (fun (_:Int)=>none) j) j) j) q8).getD (dflt (Sh.nm NT.span)))) ((q6=true->(q5=true->(q4=true->ic c.id (1048576:Int) ([(5:Int),(7:Int),(9:Int),(10:Int),(11:Int)].contains q8)=r0)/\(q4=false->q2))/\(q5=false->q2))/\(q6=false->q2))) (false=r0)) ((↑c.chunks.length:Int)=(0:Int))) (ic c.set q9 ([(2:Int),(3:Int),(4:Int)].contains q8))) (ic c.seq (1048576:Int) ![(1:Int),q9].contains q8)) (ic c.client q9 ![q9].contains q8)) (c.text=Str.mk [])) c.kind) (8:Int)):=by kernel_rfl
theorem H_ (c:Command):Sat Tryz.prog (aq aE) 121 [.agg (cellsOf (.nm .command) c)] [] ⟨[],[.c (.bool (.atom ((eA c))))],none,false⟩:=by
 refine aO qK [] Tryz.func121 (by decide) (by kernel_rfl) ?_
 rw [HI]
 simp only [Jc]
 (repeat' (first | with_reducible refine And.intro ?_ ?_ | with_reducible refine and_imp.2 ?_ | intro))
 all_goals ((unfold eA vT IT; simp_all) <;> (intros; omega))
theorem EY (s:State) (v:Int) (r0:Bool):cG aE Eg [] Tryz.f118 [.agg (cellsOf (.nm .state) s),.c (.int (v))] [] [.c (.bool (.atom (r0)))]=((fun (q1:Nat)=>(fun (q0:Int)=>I64 s.version->I64 s.next->I64 s.keep->I64 s.quota->s.sess.length*(32:Nat)<=(140737488355328:Nat)->s.opens.length*(16:Nat)<=(140737488355328:Nat)->q1*(64:Nat)<=(140737488355328:Nat)->I64 v->((↑q1:Int)<=(16:Int)->I64 q0/\q0<=(1048576:Int))/\((16:Int)<(↑q1:Int)\/ao Snap.id q0 (0:Int) s.snaps=false->false=r0)/\((↑q1:Int)<=(16:Int)/\ao Snap.id q0 (0:Int) s.snaps=true->(v<(3:Int)->s.snaps.all (bN v (0:Int))=r0)/\((3:Int)<=v->s.snaps.all (bN v (16:Int))=r0))) (s.next - (1:Int))) s.snaps.length):=by kernel_rfl
theorem DN (s:State) (v:Int) (h0:1<=s.next/\s.next<=1048576):Sat Tryz.prog (aq aE) 118 [.agg (cellsOf (.nm .state) s),.c (.int (v))] [] ⟨[1<=s.next/\s.next<=1048576],[.c (.bool (.atom ((dD s v))))],none,false⟩:=by
 refine aO qK [] Tryz.func118 (by decide) (by kernel_rfl) ?_
 rw [EY]
 (repeat' (first | with_reducible refine And.intro ?_ ?_ | with_reducible refine and_imp.2 ?_ | intro))
 all_goals (first | (first | with_reducible rfl | with_reducible assumption | omega | (refine ai ?_ ?_ <;> omega)) | ((simp only [dD,gI]; simp_all) <;> (intros; omega)) | (simp only [dD,gI]; grind))
def lG:cK:=(bE 118 (bz (aj (kT (.nm .state)) (aj (kC cI) aL)) aM fun (s,v,_) (_)=>⟨[1<=s.next/\s.next<=1048576],[.c (.bool (.atom ((dD s v))))],none,false⟩) (bE 121 (bz (aj (kT (.nm .command)) aL) aM fun (c,_) (_)=>⟨[],[.c (.bool (.atom ((eA c))))],none,false⟩) Eg))
theorem dE:aV Tryz.prog (aq aE) lG:=(ax (aw (ab bf (ab (av ay) ak)) al fun (s,v,_) (_) hp=>DN s v (dR hp)) (ax (aw (ab bf ak) al fun (c,_) (_) _=>H_ c ) qK))
end Go.Proofs.YtdggohppeeaipaaGreat
namespace Go.Proofs.YtdggohppeeaipaaGreat
open Go.RowKit
def fa (n:Int) (used:Bool) (lo hi:Int):Bool:=if used then aX n lo hi else decide (n=0)
def cw (s:State) (at_:Nat) (k:Nat):Int:=(((s.snaps.drop (at_+1)).take k).filter fun x=>decide (x.set=(s.snaps.getD at_ (dflt (.nm .snap))).set)).length
def ep (s:State) (at_:Int):Bool:=if at_<0\/(s.snaps.length:Int)<=at_ then false else decide (cw s at_.toNat s.snaps.length<s.keep)
def nch (l:List Snap):Nat:=(l.flatMap Snap.chunks).length
def bD (c:Int) (l:List Snap):Nat:=(l.flatMap Snap.chunks).count c
def aF (id:Int) (l:List Snap):List Snap:=l.filter fun x=>!decide (x.id=id)
theorem gd {α:Type} {l:List α} {k:Nat} {d:α} (h:(k:Int)<l.length):l[k]? = some (l.getD k d):=by
 have hk:k<l.length:=by omega
 rw [List.getD_eq_getElem?_getD,List.getElem?_eq_getElem hk]; rfl
theorem qM {l:List Int} {k:Nat} (h:ao id 64 0 (l.take k)=true) (hk:(k:Int)<l.length) (hb:aX (l.getD k (dflt .int)) 1 64=true/\((k:Int)<=0\/l.getD ((k:Int) - 1).toNat (dflt .int)<l.getD k (dflt .int))):ao id 64 0 (l.take (k+1))=true:=by
 have h1:=qP hb.1
 refine gu (key:=id) h (gd hk) ?_ h1.2
 by_cases h0:k=0
 ·subst h0; show (0:Int)<l.getD 0 (dflt .int); omega
 ·rw [fk (by omega) (gd (d:=dflt .int) (by omega))]
  have:=hb.2.resolve_left (by omega)
  rwa [show ((k:Int) - 1).toNat=k - 1 by omega] at this
theorem qG {l:List Int} {k:Nat} (hk:(k:Int)<l.length) (hb:aX (l.getD k (dflt .int)) 1 64=false\/0<(k:Int)/\l.getD k (dflt .int)<=l.getD ((k:Int) - 1).toNat (dflt .int)) (h:ao id 64 0 (l.take k)=true):false=ct l:=by
 refine gS (gd (d:=dflt .int) hk) fun h2=>?_
 rcases hb with hb | ⟨h3,h4⟩
 ·have h5:=LS hb
  have:=xb h
  omega
 ·rw [fk (by omega) (gd (d:=dflt .int) (by omega))] at h2
  rw [show ((k:Int) - 1).toNat=k - 1 by omega] at h4
  have:=h2.1
  dsimp only [id] at this
  omega
theorem kM {s:State} {a:Nat}:0=cw s a 0:=by simp [cw]
theorem Ej {s:State} {a k:Nat}:cw s a k<=(k:Int):=by
 have h1:=List.length_filter_le (fun x:Snap=>decide (x.set=(s.snaps.getD a (dflt (.nm .snap))).set)) ((s.snaps.drop (a+1)).take k)
 have h2:((s.snaps.drop (a+1)).take k).length<=k:=by rw [List.length_take]; omega
 unfold cw; omega
theorem Fh {s:State} {a k:Nat}:0<=cw s a k:=by unfold cw; omega
theorem kK {s:State} {a k:Nat} (h:a+1+k<=s.snaps.length) (h2:s.snaps.length*64<=140737488355328):I64 (cw s a k+1):=by
 have h1:=Ej (s:=s) (a:=a) (k:=k)
 have h0:=Fh (s:=s) (a:=a) (k:=k)
 constructor <;> omega
theorem jV {s:State} {a k:Nat} {x:Snap} (hx:(s.snaps.drop (a+1))[k]? = some x) (h:x.set=(s.snaps.getD a (dflt (.nm .snap))).set):cw s a k+1=cw s a (k+1):=by
 unfold cw
 rw [az hx,List.filter_append,List.length_append]
 simp [h]
theorem jP {s:State} {a k:Nat} {x:Snap} (hx:(s.snaps.drop (a+1))[k]? = some x) (h:¬ x.set=(s.snaps.getD a (dflt (.nm .snap))).set):cw s a k=cw s a (k+1):=by
 unfold cw
 rw [az hx,List.filter_append,List.length_append]
 rw [show List.filter (fun x:Snap=>decide (x.set=(s.snaps.getD a (dflt (.nm .snap))).set)) [x]=[] by simp only [List.filter_cons,h,decide_false,List.filter_nil]; rfl]
 simp
theorem gZ {s:State} {a:Int} {k:Nat} (h0:0<=a) (h:a+1+k<s.snaps.length):(s.snaps.drop (a.toNat+1))[k]? = some (s.snaps.getD (a+1+k).toNat (dflt (.nm .snap))):=by
 rw [List.getElem?_drop,show (a+1+k).toNat=a.toNat+1+k by omega]
 exact gd (by omega)
theorem fE {s:State} {a:Int} {k:Nat} (h0:0<=a) (ha:a<s.snaps.length) (h:(s.snaps.length:Int)<=a+1+k):decide (cw s a.toNat k<s.keep)=ep s a:=by
 unfold ep
 rw [if_neg (by omega)]
 have e:∀ m:Nat,(s.snaps.length:Int)<=a+1+m->cw s a.toNat m=cw s a.toNat s.snaps.length:=fun m hm=>by
  unfold cw
  rw [List.take_of_length_le (by rw [List.length_drop]; omega),List.take_of_length_le (by rw [List.length_drop]; omega)]
 rw [e k h]
theorem fo {s:State} {a:Int} (h:a<0\/(s.snaps.length:Int)<=a):false=ep s a:=by unfold ep; rw [if_pos h]
theorem iW {id:Int} {l:List Snap} {k:Nat} {x y:Snap} (h:¬ x.id=id) (hx:l[k]? = some x) (hy:l[k]? = some y):aF id (l.take k)++[y]=aF id (l.take (k+1)):=by
 rw [hx] at hy; cases hy
 unfold aF; rw [az hx,List.filter_append]; simp [h]
theorem ju {id:Int} {l:List Snap} {k:Nat} {x:Snap} (hx:l[k]? = some x) (h:x.id=id):aF id (l.take k)=aF id (l.take (k+1)):=by
 unfold aF; rw [az hx,List.filter_append]; simp [h]
theorem fO {id:Int} {l:List Snap} {k:Nat} (h:(l.length:Int)<=k):aF id (l.take k)=aF id l:=by rw [List.take_of_length_le (by omega)]
theorem fP {id:Int} {l:List Snap} {k:Nat} {x:Snap} (h:(k:Int)<l.length) (hl:l.length*64<=140737488355328):((aF id (l.take k)).length+[x].length)*64<=140737488355328:=by
 have h1:=List.length_filter_le (fun x:Snap=>!decide (x.id=id)) (l.take k)
 rw [List.length_take] at h1
 unfold aF
 simp only [List.length_cons,List.length_nil]
 omega
theorem zS {c:Int} {l:List Snap} {k:Nat} {x:Snap} (hx:l[k]? = some x):bD c (l.take (k+1))=bD c (l.take k)+x.chunks.count c:=by
 unfold bD; rw [az hx]; simp
theorem Gr {c:Int} {l:List Snap} {k q:Nat} (hl:nch l<=1048576) (hk:k<l.length):bD c (l.take k)+((l.getD k (dflt (.nm .snap))).chunks.take q).count c<=1048576:=by
 have hx:=gd (d:=dflt (.nm .snap)) (l:=l) (k:=k) (by omega)
 have h1:=zS (c:=c) hx
 have h2:bD c (l.take (k+1))<=nch l:=by
  unfold bD nch
  refine Nat.le_trans List.count_le_length ?_
  rw [<- List.take_append_drop (k+1) l,List.flatMap_append,List.length_append,List.take_append_drop]; omega
 have h3:((l.getD k (dflt (.nm .snap))).chunks.take q).count c<=(l.getD k (dflt (.nm .snap))).chunks.count c:=(List.take_sublist _ _).count_le _
 omega
theorem yB {l:List Snap} {k:Nat} {x:Snap} (hx:l[k]? = some x):l.getD k (dflt (.nm .snap))=x:=by rw [List.getD_eq_getElem?_getD,hx]; rfl
theorem oa {c:Int} {l:List Snap}:(0:Int)=(bD c (l.take 0):Int):=rfl
theorem kz {c:Int} {l:List Snap} {k:Nat} {m:List Int}:(bD c (l.take k):Int)=((bD c (l.take k)+(m.take 0).count c:Nat):Int):=rfl
theorem pf {c:Int} {l:List Snap} {k:Nat} (h:(l.length:Int)<=k):(bD c (l.take k):Int)=(bD c l:Int):=by rw [List.take_of_length_le (by omega)]
theorem oc {l:List Snap} {k q:Nat} {x y:Snap} (h:(q:Int)<x.chunks.length) (hx:l[k]? = some x) (hy:l[k]? = some y):(q:Int)<y.chunks.length:=by rw [hx] at hy; cases hy; exact h
theorem oe {n k s:Nat} {m:Nat} (h:k=(s,m).1) (hk:k<n):n - (k+1)<n - s:=by dsimp only at h; omega
theorem ov {c:Int} {l:List Snap} {k q:Nat} (hl:nch l<=1048576) (hk:k<l.length):I64 (((bD c (l.take k)+((l.getD k (dflt (.nm .snap))).chunks.take q).count c:Nat):Int)+1):=by
 have:=Gr (c:=c) (q:=q) hl hk; constructor <;> omega
theorem oD {c v:Int} {l:List Snap} {k q:Nat} {x:Snap} (h:v=c) (hv:x.chunks[q]? = some v) (hx:l[k]? = some x):((bD c (l.take k)+((l.getD k (dflt (.nm .snap))).chunks.take q).count c:Nat):Int)+1=((bD c (l.take k)+((l.getD k (dflt (.nm .snap))).chunks.take (q+1)).count c:Nat):Int):=by
 rw [yB hx,az hv,List.count_append,h]; simp; omega
theorem oR {c v:Int} {l:List Snap} {k q:Nat} {x:Snap} (h:¬ v=c) (hv:x.chunks[q]? = some v) (hx:l[k]? = some x):((bD c (l.take k)+((l.getD k (dflt (.nm .snap))).chunks.take q).count c:Nat):Int)=((bD c (l.take k)+((l.getD k (dflt (.nm .snap))).chunks.take (q+1)).count c:Nat):Int):=by
 have h2:([v]:List Int).count c=0:=by simp [h]
 rw [yB hx,az hv,List.count_append,h2]; rfl
theorem oo {c:Int} {l:List Snap} {k q:Nat} {x:Snap} (h:(x.chunks.length:Int)<=q) (hx:l[k]? = some x):((bD c (l.take k)+((l.getD k (dflt (.nm .snap))).chunks.take q).count c:Nat):Int)=(bD c (l.take (k+1)):Int):=by
 rw [yB hx,List.take_of_length_le (i:=q) (l:=x.chunks) (by omega),zS hx]
theorem oI {l:List Snap} {k q:Nat} {x:Snap} (h:(q:Int)<x.chunks.length) (hx:l[k]? = some x):q+1<=(l.getD k (dflt (.nm .snap))).chunks.length:=by rw [yB hx]; omega
theorem oB {l:List Snap} {k q:Nat} {x:Snap} (h:(q:Int)<x.chunks.length) (hx:l[k]? = some x):(l.getD k (dflt (.nm .snap))).chunks.length - (q+1)<(l.getD k (dflt (.nm .snap))).chunks.length - q:=by rw [yB hx]; omega
def Ga (l:List Int):List (Nat × LI):=[(2,{ σ:=Nat,F:=fun k=>([(0,one (.fz .int (l))),(3,one (.int k))],[]),J:=fun k=>k<=l.length/\ao id 64 0 (l.take k)=true,μ:=fun k=>l.length - k })]
def sM (st:State) (x:Int):List (Nat × LI):=[(2,{ σ:=Nat,F:=fun k=>([(1,one (.int (x))),(2,one (.ptr 0 0)),(5,one (.int k))],[.box 26 (cellsOf (.nm .state) ((st)))]),J:=fun k=>k<=st.sess.length/\ag Sess.client x (st.sess.take k) = -1,μ:=fun k=>st.sess.length - k })]
def rO (st:State) (x:Int):List (Nat × LI):=[(2,{ σ:=Nat,F:=fun k=>([(1,one (.int (x))),(2,one (.ptr 0 0)),(5,one (.int k))],[.box 26 (cellsOf (.nm .state) ((st)))]),J:=fun k=>k<=st.opens.length/\ag Opn.set x (st.opens.take k) = -1,μ:=fun k=>st.opens.length - k })]
def Cf (st:State) (x:Int):List (Nat × LI):=[(2,{ σ:=Nat,F:=fun k=>([(1,one (.int (x))),(2,one (.ptr 0 0)),(5,one (.int k))],[.box 26 (cellsOf (.nm .state) ((st)))]),J:=fun k=>k<=st.snaps.length/\ag Snap.id x (st.snaps.take k) = -1,μ:=fun k=>st.snaps.length - k })]
def AF (st:State) (at_:Int):List (Nat × LI):=[(5,{ σ:=Nat,F:=fun k=>([(1,one (.int (at_))),(2,one (.ptr 0 0)),(5,one (.int (cw st at_.toNat k))),(6,one (.int (at_+1+k)))],[.box 26 (cellsOf (.nm .state) ((st)))]),J:=fun k=>at_.toNat+1+k<=st.snaps.length/\0<=at_,μ:=fun k=>st.snaps.length - k })]
def Fq (st:State) (at_:Int):List (Nat × LI):=[(5,{ σ:=Nat,F:=fun k=>([(1,one (.int (at_))),(2,one (.ptr 0 0)),(5,one (.int (cw st at_.toNat k))),(21,one (.fz (.nm .snap) (st.snaps.drop (at_+1).toNat))),(22,one (.int (st.snaps.drop (at_+1).toNat).length)),(23,one (.int k))],[.box 26 (cellsOf (.nm .state) ((st)))]),J:=fun k=>at_.toNat+1+k<=st.snaps.length/\0<=at_,μ:=fun k=>st.snaps.length - k })]
def vX (l:List Snap) (c:Int):List (Nat × LI):=[(3,{ σ:=Nat,F:=fun k=>([(0,one (.fz (.nm .snap) (l))),(1,one (.int (c))),(5,one (.int (bD c (l.take k)))),(6,one (.int k))],[]),J:=fun k=>k<=l.length,μ:=fun k=>l.length - k }),(6,{ σ:=Nat × Nat,F:=fun q=>([(0,one (.fz (.nm .snap) (l))),(1,one (.int (c))),(5,one (.int ((bD c (l.take q.1)+((l.getD q.1 (dflt (.nm .snap))).chunks.take q.2).count c:Nat)))),(6,one (.int q.1)),(7,one (.int q.2))],[]),J:=fun q=>q.1<l.length/\q.2<=(l.getD q.1 (dflt (.nm .snap))).chunks.length,μ:=fun q=>(l.getD q.1 (dflt (.nm .snap))).chunks.length - q.2,R:=some fun q0 q=>q.1=q0.1 })]
def pb (l:List Snap) (id:Int):List (Nat × LI):=[(3,{ σ:=Nat,F:=fun k=>([(0,one (.fz (.nm .snap) (l))),(1,one (.int (id))),(5,one (.own 0)),(6,one (.int k))],[.row 59 (.nm .snap) ((aF id (l.take k)))]),J:=fun k=>k<=l.length,μ:=fun k=>l.length - k })]
theorem Ik (l:List Int) (r0:Bool):cG aE lG (Ga l) Tryz.f72 [.c (.fz .int (l))] [] [.c (.bool (.atom (r0)))]=((fun (q4:Int)=>(fun (q3:Int)=>(fun (q2:den Sh.int)=>(fun (q1:Int)=>(fun (q0:Int)=>l.length*(8:Nat)<=(140737488355328:Nat)->∃ (s0:Nat),(l=l/\q1=(↑s0:Int))/\(s0<=l.length/\ao id q4 q1 (List.take s0 l)=true)/\∀ (s:Nat),(fun (q7:den Sh.int)=>(fun (q6:Int)=>(fun (q5:Prop)=>s<=l.length/\ao id q4 q1 (List.take s l)=true->(q6<q3->q1<=q6/\q6<q3/\(q5->q1<=q6/\q6<q3)/\(q5->I64 (q6 - q0))/\(q5->q1<=q6 - q0/\q6 - q0<q3)/\(I64 q7->(q5->I64 q7)->(q5->I64 (l.getD (q6 - q0).toNat q2))->(aX q7 q0 q4=false\/q1<q6/\q7<=l.getD (q6 - q0).toNat q2->false=r0)/\(aX q7 q0 q4=true/\(q6<=q1\/l.getD (q6 - q0).toNat q2<q7)->I64 (q6+q0)/\∃ (s':Nat),(l=l/\q6+q0=(↑s':Int))/\(s' <= l.length/\ao id q4 q1 (List.take s' l)=true)/\l.length - s' < l.length - s)))/\(q3<=q6->(decide (q0<=q3) && decide (q3<=(8:Int)))=r0)) (aX q7 q0 q4=true/\q1<q6)) (↑s:Int)) (l.getD s q2)) (1:Int)) (0:Int)) (dflt Sh.int)) (↑l.length:Int)) (64:Int)):=by kernel_rfl
theorem GJ (l:List Int):Sat Tryz.prog (aq aE) 72 [.c (.fz .int (l))] [] ⟨[],[.c (.bool (.atom ((ct l))))],none,false⟩:=by
 refine aO dE (Ga l) Tryz.func72 (by decide) (by kernel_rfl) ?_
 rw [Ik]
 (repeat' (first | with_reducible refine And.intro ?_ ?_ | with_reducible refine and_imp.2 ?_ | intro))
 all_goals try (first | (first | with_reducible rfl | with_reducible assumption | omega | (refine ai ?_ ?_ <;> omega)) | exact rfl | exact (qM (by with_reducible assumption) (by omega) (And.intro (by with_reducible assumption) (by assumption))) | exact (qG (by omega) (by assumption) (by with_reducible assumption)) | exact (jJ (by with_reducible assumption) (by omega)))
 all_goals try (refine ⟨0,?_⟩; (repeat' (first | with_reducible refine And.intro ?_ ?_ | with_reducible refine and_imp.2 ?_ | intro)))
 all_goals try (first | (first | with_reducible rfl | with_reducible assumption | omega | (refine ai ?_ ?_ <;> omega)) | exact rfl | exact (qM (by with_reducible assumption) (by omega) (And.intro (by with_reducible assumption) (by assumption))) | exact (qG (by omega) (by assumption) (by with_reducible assumption)) | exact (jJ (by with_reducible assumption) (by omega)))
 all_goals try (refine ⟨‹Nat› + 1,?_⟩; (repeat' (first | with_reducible refine And.intro ?_ ?_ | with_reducible refine and_imp.2 ?_ | intro)))
 all_goals (first | (first | with_reducible rfl | with_reducible assumption | omega | (refine ai ?_ ?_ <;> omega)) | exact rfl | exact (qM (by with_reducible assumption) (by omega) (And.intro (by with_reducible assumption) (by assumption))) | exact (qG (by omega) (by assumption) (by with_reducible assumption)) | exact (jJ (by with_reducible assumption) (by omega)))
theorem DO (x:Int) (r0:Int):cG aE lG [] Tryz.f70 [.c (.int (x))] [] [.c (.int (r0))]=(I64 x->(aX x (1:Int) (8:Int)=true->(1:Int)=r0)/\(aX x (1:Int) (8:Int)=false->(aX x (9:Int) (10:Int)=true->(2:Int)=r0)/\(aX x (9:Int) (10:Int)=false->(aX x (11:Int) (12:Int)=true->(3:Int)=r0)/\(aX x (11:Int) (12:Int)=false->(0:Int)=r0)))):=by kernel_rfl
theorem DM (x:Int):Sat Tryz.prog (aq aE) 70 [.c (.int (x))] [] ⟨[],[.c (.int ((bR x)))],none,false⟩:=by
 refine aO dE [] Tryz.func70 (by decide) (by kernel_rfl) ?_
 rw [DO]
 intro _
 by_cases h:1<=x/\x<=12
 ·rw [CZ h]; simp only [aX,Bool.and_eq_true,Bool.and_eq_false_iff,decide_eq_true_eq,decide_eq_false_iff_not]; (repeat' (first | with_reducible refine And.intro ?_ ?_ | with_reducible refine and_imp.2 ?_ | intro)) <;> (repeat split) <;> omega
 ·rw [Ev h]; exact ⟨fun h1=>absurd (qP h1) (by omega),fun _=>⟨fun h1=>absurd (qP h1) (by omega),fun _=>⟨fun h1=>absurd (qP h1) (by omega),fun _=>rfl⟩⟩⟩
theorem Bd (n:Int) (used:Bool) (lo:Int) (hi:Int) (r0:Bool):cG aE lG [] Tryz.f71 [.c (.int (n)),.c (.bool (.atom (used))),.c (.int (lo)),.c (.int (hi))] [] [.c (.bool (.atom (r0)))]=(I64 n->I64 lo->I64 hi->(used=false->decide (n=(0:Int))=r0)/\(used=true->aX n lo hi=r0)):=by kernel_rfl
theorem zm (n:Int) (used:Bool) (lo:Int) (hi:Int):Sat Tryz.prog (aq aE) 71 [.c (.int (n)),.c (.bool (.atom (used))),.c (.int (lo)),.c (.int (hi))] [] ⟨[],[.c (.bool (.atom ((fa n used lo hi))))],none,false⟩:=by
 refine aO dE [] Tryz.func71 (by decide) (by kernel_rfl) ?_
 rw [Bd]
 grind [fa]
theorem xR (st:State) (x:Int) (r0:Int):cG aE lG (sM st x) Tryz.f17 [.agg (cellsOf (.nm .state) st),.c (.int (x))] [] [.c (.int (r0))]=((fun (q2:Int)=>(fun (q1:List Sess)=>(fun (q0:Prop)=>I64 st.version->I64 st.next->I64 st.keep->I64 st.quota->q1.length*(32:Nat)<=(140737488355328:Nat)->st.opens.length*(16:Nat)<=(140737488355328:Nat)->st.snaps.length*(64:Nat)<=(140737488355328:Nat)->I64 x->∃ (s0:Nat),(x=x/\(0:Int)=(↑s0:Int)/\q0)/\(s0<=q1.length/\ag Sess.client x (List.take s0 q1) = -q2)/\∀ (s:Nat),s<=q1.length/\ag Sess.client x (List.take s q1) = -q2->((↑s:Int)<(↑q1.length:Int)->(0:Int)<=(↑s:Int)/\(↑s:Int)<(↑q1.length:Int)/\∀ (x_1:Sess),q1[s]? = some x_1->I64 x_1.client->I64 x_1.seq->I64 x_1.last.code->I64 x_1.last.n->(x_1.client=x->(↑s:Int)=r0)/\(¬x_1.client=x->I64 ((↑s:Int)+q2)/\∃ (s':Nat),(x=x/\(↑s:Int)+q2=(↑s':Int)/\q0)/\(s' <= q1.length/\ag Sess.client x (List.take s' q1) = -q2)/\q1.length - s' < q1.length - s))/\((↑q1.length:Int)<=(↑s:Int) -> -q2=r0)) (st.version=st.version/\st.next=st.next/\st.keep=st.keep/\st.quota=st.quota/\q1=q1/\st.opens=st.opens/\st.snaps=st.snaps)) st.sess) (1:Int)):=by kernel_rfl
theorem yr (st:State) (x:Int):Sat Tryz.prog (aq aE) 17 [.agg (cellsOf (.nm .state) st),.c (.int (x))] [] ⟨[],[.c (.int ((ag Sess.client x st.sess)))],none,false⟩:=by
 refine aO dE (sM st x) Tryz.func17 (by decide) (by kernel_rfl) ?_
 rw [xR]
 (repeat' (first | with_reducible refine And.intro ?_ ?_ | with_reducible refine and_imp.2 ?_ | intro))
 all_goals try (first | (first | with_reducible rfl | with_reducible assumption | omega | (refine ai ?_ ?_ <;> omega)) | exact (cc (key:=Sess.client)) | exact (br (key:=Sess.client) (by with_reducible assumption) (by with_reducible assumption) (by with_reducible assumption)) | exact (bO (key:=Sess.client) (by with_reducible assumption) (by omega)) | exact (bP (key:=Sess.client) (by with_reducible assumption) (by with_reducible assumption) (by with_reducible assumption)))
 all_goals try (refine ⟨0,?_⟩; (repeat' (first | with_reducible refine And.intro ?_ ?_ | with_reducible refine and_imp.2 ?_ | intro)))
 all_goals try (first | (first | with_reducible rfl | with_reducible assumption | omega | (refine ai ?_ ?_ <;> omega)) | exact (cc (key:=Sess.client)) | exact (br (key:=Sess.client) (by with_reducible assumption) (by with_reducible assumption) (by with_reducible assumption)) | exact (bO (key:=Sess.client) (by with_reducible assumption) (by omega)) | exact (bP (key:=Sess.client) (by with_reducible assumption) (by with_reducible assumption) (by with_reducible assumption)))
 all_goals try (refine ⟨‹Nat› + 1,?_⟩; (repeat' (first | with_reducible refine And.intro ?_ ?_ | with_reducible refine and_imp.2 ?_ | intro)))
 all_goals (first | (first | with_reducible rfl | with_reducible assumption | omega | (refine ai ?_ ?_ <;> omega)) | exact (cc (key:=Sess.client)) | exact (br (key:=Sess.client) (by with_reducible assumption) (by with_reducible assumption) (by with_reducible assumption)) | exact (bO (key:=Sess.client) (by with_reducible assumption) (by omega)) | exact (bP (key:=Sess.client) (by with_reducible assumption) (by with_reducible assumption) (by with_reducible assumption)))
theorem xm (st:State) (x:Int) (r0:Int):cG aE lG (rO st x) Tryz.f59 [.agg (cellsOf (.nm .state) st),.c (.int (x))] [] [.c (.int (r0))]=((fun (q2:Int)=>(fun (q1:List Opn)=>(fun (q0:Prop)=>I64 st.version->I64 st.next->I64 st.keep->I64 st.quota->st.sess.length*(32:Nat)<=(140737488355328:Nat)->q1.length*(16:Nat)<=(140737488355328:Nat)->st.snaps.length*(64:Nat)<=(140737488355328:Nat)->I64 x->∃ (s0:Nat),(x=x/\(0:Int)=(↑s0:Int)/\q0)/\(s0<=q1.length/\ag Opn.set x (List.take s0 q1) = -q2)/\∀ (s:Nat),s<=q1.length/\ag Opn.set x (List.take s q1) = -q2->((↑s:Int)<(↑q1.length:Int)->(0:Int)<=(↑s:Int)/\(↑s:Int)<(↑q1.length:Int)/\∀ (x_1:Opn),q1[s]? = some x_1->I64 x_1.set->I64 x_1.client->(x_1.set=x->(↑s:Int)=r0)/\(¬x_1.set=x->I64 ((↑s:Int)+q2)/\∃ (s':Nat),(x=x/\(↑s:Int)+q2=(↑s':Int)/\q0)/\(s' <= q1.length/\ag Opn.set x (List.take s' q1) = -q2)/\q1.length - s' < q1.length - s))/\((↑q1.length:Int)<=(↑s:Int) -> -q2=r0)) (st.version=st.version/\st.next=st.next/\st.keep=st.keep/\st.quota=st.quota/\st.sess=st.sess/\q1=q1/\st.snaps=st.snaps)) st.opens) (1:Int)):=by kernel_rfl
theorem wW (st:State) (x:Int):Sat Tryz.prog (aq aE) 59 [.agg (cellsOf (.nm .state) st),.c (.int (x))] [] ⟨[],[.c (.int ((ag Opn.set x st.opens)))],none,false⟩:=by
 refine aO dE (rO st x) Tryz.func59 (by decide) (by kernel_rfl) ?_
 rw [xm]
 (repeat' (first | with_reducible refine And.intro ?_ ?_ | with_reducible refine and_imp.2 ?_ | intro))
 all_goals try (first | (first | with_reducible rfl | with_reducible assumption | omega | (refine ai ?_ ?_ <;> omega)) | exact (cc (key:=Opn.set)) | exact (br (key:=Opn.set) (by with_reducible assumption) (by with_reducible assumption) (by with_reducible assumption)) | exact (bO (key:=Opn.set) (by with_reducible assumption) (by omega)) | exact (bP (key:=Opn.set) (by with_reducible assumption) (by with_reducible assumption) (by with_reducible assumption)))
 all_goals try (refine ⟨0,?_⟩; (repeat' (first | with_reducible refine And.intro ?_ ?_ | with_reducible refine and_imp.2 ?_ | intro)))
 all_goals try (first | (first | with_reducible rfl | with_reducible assumption | omega | (refine ai ?_ ?_ <;> omega)) | exact (cc (key:=Opn.set)) | exact (br (key:=Opn.set) (by with_reducible assumption) (by with_reducible assumption) (by with_reducible assumption)) | exact (bO (key:=Opn.set) (by with_reducible assumption) (by omega)) | exact (bP (key:=Opn.set) (by with_reducible assumption) (by with_reducible assumption) (by with_reducible assumption)))
 all_goals try (refine ⟨‹Nat› + 1,?_⟩; (repeat' (first | with_reducible refine And.intro ?_ ?_ | with_reducible refine and_imp.2 ?_ | intro)))
 all_goals (first | (first | with_reducible rfl | with_reducible assumption | omega | (refine ai ?_ ?_ <;> omega)) | exact (cc (key:=Opn.set)) | exact (br (key:=Opn.set) (by with_reducible assumption) (by with_reducible assumption) (by with_reducible assumption)) | exact (bO (key:=Opn.set) (by with_reducible assumption) (by omega)) | exact (bP (key:=Opn.set) (by with_reducible assumption) (by with_reducible assumption) (by with_reducible assumption)))
theorem DP (st:State) (x:Int) (r0:Int):cG aE lG (Cf st x) Tryz.f64 [.agg (cellsOf (.nm .state) st),.c (.int (x))] [] [.c (.int (r0))]=((fun (q2:Int)=>(fun (q1:List Snap)=>(fun (q0:Prop)=>I64 st.version->I64 st.next->I64 st.keep->I64 st.quota->st.sess.length*(32:Nat)<=(140737488355328:Nat)->st.opens.length*(16:Nat)<=(140737488355328:Nat)->q1.length*(64:Nat)<=(140737488355328:Nat)->I64 x->∃ (s0:Nat),(x=x/\(0:Int)=(↑s0:Int)/\q0)/\(s0<=q1.length/\ag Snap.id x (List.take s0 q1) = -q2)/\∀ (s:Nat),s<=q1.length/\ag Snap.id x (List.take s q1) = -q2->((↑s:Int)<(↑q1.length:Int)->(0:Int)<=(↑s:Int)/\(↑s:Int)<(↑q1.length:Int)/\∀ (x_1:Snap),q1[s]? = some x_1->I64 x_1.id->I64 x_1.set->x_1.chunks.length*(8:Nat)<=(140737488355328:Nat)->x_1.tag.b.length<=(140737488355328:Nat)->(x_1.id=x->(↑s:Int)=r0)/\(¬x_1.id=x->I64 ((↑s:Int)+q2)/\∃ (s':Nat),(x=x/\(↑s:Int)+q2=(↑s':Int)/\q0)/\(s' <= q1.length/\ag Snap.id x (List.take s' q1) = -q2)/\q1.length - s' < q1.length - s))/\((↑q1.length:Int)<=(↑s:Int) -> -q2=r0)) (st.version=st.version/\st.next=st.next/\st.keep=st.keep/\st.quota=st.quota/\st.sess=st.sess/\st.opens=st.opens/\q1=q1)) st.snaps) (1:Int)):=by kernel_rfl
theorem DF (st:State) (x:Int):Sat Tryz.prog (aq aE) 64 [.agg (cellsOf (.nm .state) st),.c (.int (x))] [] ⟨[],[.c (.int ((ag Snap.id x st.snaps)))],none,false⟩:=by
 refine aO dE (Cf st x) Tryz.func64 (by decide) (by kernel_rfl) ?_
 rw [DP]
 (repeat' (first | with_reducible refine And.intro ?_ ?_ | with_reducible refine and_imp.2 ?_ | intro))
 all_goals try (first | (first | with_reducible rfl | with_reducible assumption | omega | (refine ai ?_ ?_ <;> omega)) | exact (cc (key:=Snap.id)) | exact (br (key:=Snap.id) (by with_reducible assumption) (by with_reducible assumption) (by with_reducible assumption)) | exact (bO (key:=Snap.id) (by with_reducible assumption) (by omega)) | exact (bP (key:=Snap.id) (by with_reducible assumption) (by with_reducible assumption) (by with_reducible assumption)))
 all_goals try (refine ⟨0,?_⟩; (repeat' (first | with_reducible refine And.intro ?_ ?_ | with_reducible refine and_imp.2 ?_ | intro)))
 all_goals try (first | (first | with_reducible rfl | with_reducible assumption | omega | (refine ai ?_ ?_ <;> omega)) | exact (cc (key:=Snap.id)) | exact (br (key:=Snap.id) (by with_reducible assumption) (by with_reducible assumption) (by with_reducible assumption)) | exact (bO (key:=Snap.id) (by with_reducible assumption) (by omega)) | exact (bP (key:=Snap.id) (by with_reducible assumption) (by with_reducible assumption) (by with_reducible assumption)))
 all_goals try (refine ⟨‹Nat› + 1,?_⟩; (repeat' (first | with_reducible refine And.intro ?_ ?_ | with_reducible refine and_imp.2 ?_ | intro)))
 all_goals (first | (first | with_reducible rfl | with_reducible assumption | omega | (refine ai ?_ ?_ <;> omega)) | exact (cc (key:=Snap.id)) | exact (br (key:=Snap.id) (by with_reducible assumption) (by with_reducible assumption) (by with_reducible assumption)) | exact (bO (key:=Snap.id) (by with_reducible assumption) (by omega)) | exact (bP (key:=Snap.id) (by with_reducible assumption) (by with_reducible assumption) (by with_reducible assumption)))
theorem Dc (st:State) (at_:Int) (r0:Bool):cG aE lG (AF st at_) Tryz.f103 [.agg (cellsOf (.nm .state) st),.c (.int (at_))] [] [.c (.bool (.atom (r0)))]=((fun (q8:Nat)=>(fun (q7:Int)=>(fun (q6:den (Sh.nm NT.snap))=>(fun (q5:Prop)=>(fun (q4:Nat)=>(fun (q3:List Snap)=>(fun (q2:den (Sh.nm NT.snap))=>(fun (q1:Int)=>(fun (q0:Prop)=>I64 st.version->I64 st.next->I64 st.keep->I64 st.quota->st.sess.length*(32:Nat)<=q8->st.opens.length*(16:Nat)<=q8->q3.length*(64:Nat)<=q8->I64 at_->(at_<(0:Int)\/(↑q3.length:Int)<=at_->false=r0)/\(q5/\at_<(↑q3.length:Int)->I64 q1/\∃ (s0:Nat),(fun (q11:Int)=>(fun (q10:Nat)=>(fun (q9:Nat)=>(at_=at_/\(0:Int)=cw st q4 s0/\q1=q1+(↑s0:Int)/\q0)/\(q10+s0<=q9/\q5)/\∀ (s:Nat),(fun (q13:Int)=>(fun (q12:Int)=>q10+s<=q9/\q5->(q12<q11->(0:Int)<=q12/\q12<q11/\q5/\at_<q11/\(I64 (q3.getD q12.toNat q6).id->I64 (q3.getD q12.toNat q6).set->(q3.getD q12.toNat q6).chunks.length*(8:Nat)<=q8->(q3.getD q12.toNat q6).tag.b.length<=q8->I64 q2.id->I64 q2.set->q2.chunks.length*(8:Nat)<=q8->q2.tag.b.length<=q8->((q3.getD q12.toNat q6).set=q2.set->I64 (q13+q7)/\I64 (q12+q7)/\∃ (s':Nat),(at_=at_/\q13+q7=cw st q4 s' /\ q12+q7=q1+(↑s':Int)/\q0)/\(q10+s' <= q9/\q5)/\q9 - s' < q9 - s)/\(¬(q3.getD q12.toNat q6).set=q2.set->I64 (q12+q7)/\∃ (s':Nat),(at_=at_/\q13=cw st q4 s' /\ q12+q7=q1+(↑s':Int)/\q0)/\(q10+s' <= q9/\q5)/\q9 - s' < q9 - s)))/\(q11<=q12->decide (q13<st.keep)=r0)) (q1+(↑s:Int))) (cw st q4 s)) q3.length) (q4+(1:Nat))) (↑q3.length:Int))) (st.version=st.version/\st.next=st.next/\st.keep=st.keep/\st.quota=st.quota/\st.sess=st.sess/\st.opens=st.opens/\q3=q3)) (at_+q7)) (q3.getD q4 q6)) st.snaps) at_.toNat) ((0:Int)<=at_)) (dflt (Sh.nm NT.snap))) (1:Int)) (140737488355328:Nat)):=by kernel_rfl
theorem CS (st:State) (at_:Int):Sat Tryz.prog (aq aE) 103 [.agg (cellsOf (.nm .state) st),.c (.int (at_))] [] ⟨[],[.c (.bool (.atom ((ep st at_))))],none,false⟩:=by
 refine aO dE (AF st at_) Tryz.func103 (by decide) (by kernel_rfl) ?_
 rw [Dc]
 (repeat' (first | with_reducible refine And.intro ?_ ?_ | with_reducible refine and_imp.2 ?_ | intro))
 all_goals try (first | (first | with_reducible rfl | with_reducible assumption | omega | (refine ai ?_ ?_ <;> omega)) | exact kM | exact (fo (by assumption)) | exact (kK (by omega) (by omega)) | exact (fE (by omega) (by omega) (by omega)) | exact (jV (gZ (by omega) (by omega)) (by with_reducible assumption)) | exact (jP (gZ (by omega) (by omega)) (by with_reducible assumption)))
 all_goals try (refine ⟨0,?_⟩; (repeat' (first | with_reducible refine And.intro ?_ ?_ | with_reducible refine and_imp.2 ?_ | intro)))
 all_goals try (first | (first | with_reducible rfl | with_reducible assumption | omega | (refine ai ?_ ?_ <;> omega)) | exact kM | exact (fo (by assumption)) | exact (kK (by omega) (by omega)) | exact (fE (by omega) (by omega) (by omega)) | exact (jV (gZ (by omega) (by omega)) (by with_reducible assumption)) | exact (jP (gZ (by omega) (by omega)) (by with_reducible assumption)))
 all_goals try (refine ⟨‹Nat› + 1,?_⟩; (repeat' (first | with_reducible refine And.intro ?_ ?_ | with_reducible refine and_imp.2 ?_ | intro)))
 all_goals (first | (first | with_reducible rfl | with_reducible assumption | omega | (refine ai ?_ ?_ <;> omega)) | exact kM | exact (fo (by assumption)) | exact (kK (by omega) (by omega)) | exact (fE (by omega) (by omega) (by omega)) | exact (jV (gZ (by omega) (by omega)) (by with_reducible assumption)) | exact (jP (gZ (by omega) (by omega)) (by with_reducible assumption)))
theorem Im (st:State) (at_:Int) (r0:Bool):cG aE lG (Fq st at_) Tryz.f98 [.agg (cellsOf (.nm .state) st),.c (.int (at_))] [] [.c (.bool (.atom (r0)))]=((fun (q8:Int)=>(fun (q7:Nat)=>(fun (q6:den (Sh.nm NT.snap))=>(fun (q5:Int)=>(fun (q4:Prop)=>(fun (q3:Nat)=>(fun (q2:List Snap)=>(fun (q1:Nat)=>(fun (q0:Prop)=>I64 st.version->I64 st.next->I64 st.keep->I64 st.quota->st.sess.length*(32:Nat)<=q7->st.opens.length*(16:Nat)<=q7->q2.length*(64:Nat)<=q7->I64 at_->(at_<q8\/(↑q2.length:Int)<=at_->false=r0)/\(q4/\at_<(↑q2.length:Int)->I64 (at_+q5)/\q8<=at_+q5/\at_+q5<=(↑q2.length:Int)/\∃ (s0:Nat),(fun (q13:Nat)=>(fun (q12:Nat)=>(fun (q11:den (Sh.nm NT.snap))=>(fun (q10:List (den (Sh.nm NT.snap)))=>(fun (q9:Int)=>(at_=at_/\q8=cw st q3 s0/\q10=q10/\(↑q10.length:Int)=q9/\q8=(↑s0:Int)/\q0)/\(q13+s0<=q12/\q4)/\∀ (s:Nat),(fun (q15:Int)=>(fun (q14:Int)=>q13+s<=q12/\q4->((↑s:Int)<q9->q8<=(↑s:Int)/\(↑s:Int)<(↑q10.length:Int)/\∀ (x:Snap),q10[s]? = some x->I64 x.id->I64 x.set->x.chunks.length*(8:Nat)<=q7->x.tag.b.length<=q7->q4/\at_<(↑q2.length:Int)/\(I64 q11.id->I64 q11.set->q11.chunks.length*(8:Nat)<=q7->q11.tag.b.length<=q7->(x.set=q11.set->I64 (q15+q5)/\I64 q14/\∃ (s':Nat),(at_=at_/\q15+q5=cw st q3 s' /\ q10=q10/\q9=q9/\q14=(↑s':Int)/\q0)/\(q13+s' <= q12/\q4)/\q12 - s' < q12 - s)/\(¬x.set=q11.set->I64 q14/\∃ (s':Nat),(at_=at_/\q15=cw st q3 s' /\ q10=q10/\q9=q9/\q14=(↑s':Int)/\q0)/\(q13+s' <= q12/\q4)/\q12 - s' < q12 - s)))/\(q9<=(↑s:Int)->decide (q15<st.keep)=r0)) ((↑s:Int)+q5)) (cw st q3 s)) (↑(List.drop q1 q2).length:Int)) (List.drop q1 q2)) (q2.getD q3 q6)) q2.length) (q3+(1:Nat)))) (st.version=st.version/\st.next=st.next/\st.keep=st.keep/\st.quota=st.quota/\st.sess=st.sess/\st.opens=st.opens/\q2=q2)) (at_+q5).toNat) st.snaps) at_.toNat) (q8<=at_)) (1:Int)) (dflt (Sh.nm NT.snap))) (140737488355328:Nat)) (0:Int)):=by kernel_rfl
theorem HB (st:State) (at_:Int):Sat Tryz.prog (aq aE) 98 [.agg (cellsOf (.nm .state) st),.c (.int (at_))] [] ⟨[],[.c (.bool (.atom ((ep st at_))))],none,false⟩:=by
 refine aO dE (Fq st at_) Tryz.func98 (by decide) (by kernel_rfl) ?_
 rw [Im]
 (repeat' (first | with_reducible refine And.intro ?_ ?_ | with_reducible refine and_imp.2 ?_ | intro))
 all_goals try (first | (first | with_reducible rfl | with_reducible assumption | omega | (refine ai ?_ ?_ <;> omega)) | exact kM | exact (fo (by assumption)) | exact (kK (by omega) (by omega)) | exact (fE (by omega) (by omega) (by rw [List.length_drop] at *; omega)) | exact (jV (by rw [show (at_+1).toNat=at_.toNat+1 by omega] at *; assumption) (by with_reducible assumption)) | exact (by have:=‹_<((List.length (List.drop _ _):Nat):Int)›; rw [List.length_drop] at this; omega) | exact (jP (by rw [show (at_+1).toNat=at_.toNat+1 by omega] at *; assumption) (by with_reducible assumption)))
 all_goals try (refine ⟨0,?_⟩; (repeat' (first | with_reducible refine And.intro ?_ ?_ | with_reducible refine and_imp.2 ?_ | intro)))
 all_goals try (first | (first | with_reducible rfl | with_reducible assumption | omega | (refine ai ?_ ?_ <;> omega)) | exact kM | exact (fo (by assumption)) | exact (kK (by omega) (by omega)) | exact (fE (by omega) (by omega) (by rw [List.length_drop] at *; omega)) | exact (jV (by rw [show (at_+1).toNat=at_.toNat+1 by omega] at *; assumption) (by with_reducible assumption)) | exact (by have:=‹_<((List.length (List.drop _ _):Nat):Int)›; rw [List.length_drop] at this; omega) | exact (jP (by rw [show (at_+1).toNat=at_.toNat+1 by omega] at *; assumption) (by with_reducible assumption)))
 all_goals try (refine ⟨‹Nat› + 1,?_⟩; (repeat' (first | with_reducible refine And.intro ?_ ?_ | with_reducible refine and_imp.2 ?_ | intro)))
 all_goals (first | (first | with_reducible rfl | with_reducible assumption | omega | (refine ai ?_ ?_ <;> omega)) | exact kM | exact (fo (by assumption)) | exact (kK (by omega) (by omega)) | exact (fE (by omega) (by omega) (by rw [List.length_drop] at *; omega)) | exact (jV (by rw [show (at_+1).toNat=at_.toNat+1 by omega] at *; assumption) (by with_reducible assumption)) | exact (by have:=‹_<((List.length (List.drop _ _):Nat):Int)›; rw [List.length_drop] at this; omega) | exact (jP (by rw [show (at_+1).toNat=at_.toNat+1 by omega] at *; assumption) (by with_reducible assumption)))
theorem Bo (l:List Snap) (c:Int) (r0:Int):cG aE lG (vX l c) Tryz.f102 [.c (.fz (.nm .snap) (l)),.c (.int (c))] [] [.c (.int (r0))]=((fun (q4:Int)=>(fun (q3:Int)=>(fun (q2:Int)=>(fun (q1:Nat)=>(fun (q0:den (Sh.nm NT.snap))=>l.length*(64:Nat)<=(140737488355328:Nat)->I64 c->∃ (s0:Nat),(l=l/\c=c/\q3=(↑(bD c (List.take s0 l)):Int)/\q3=(↑s0:Int))/\s0<=q1/\∀ (s:Nat),s<=q1->((↑s:Int)<q4->∃ (s0:Nat × Nat),(fun (q5:Nat)=>(l=l/\c=c/\(↑(bD c (List.take s l)):Int)=(↑(bD c (List.take q5 l)+List.count c (List.take s0.snd (l.getD q5 q0).chunks)):Int)/\(↑s:Int)=(↑q5:Int)/\q3=(↑s0.snd:Int))/\(q5<q1/\s0.snd<=(l.getD q5 q0).chunks.length)/\q5=q5/\∀ (s_1:Nat × Nat),(fun (q9:List Int)=>(fun (q8:Int)=>(fun (q7:Int)=>(fun (q6:Int)=>s_1.fst<q1/\s_1.snd<=q9.length->s_1.fst=q5->q3<=q7/\q7<q4/\∀ (x:Snap),l[s_1.fst]? = some x->I64 x.id->I64 x.set->x.chunks.length*(8:Nat)<=(140737488355328:Nat)->x.tag.b.length<=(140737488355328:Nat)->(q8<(↑x.chunks.length:Int)->q3<=q7/\q7<q4/\∀ (x:Snap),l[s_1.fst]? = some x->I64 x.id->I64 x.set->x.chunks.length*(8:Nat)<=(140737488355328:Nat)->x.tag.b.length<=(140737488355328:Nat)->q3<=q8/\q8<(↑x.chunks.length:Int)/\∀ (x_1:Int),x.chunks[s_1.snd]? = some x_1->I64 x_1->(x_1=c->I64 (q6+q2)/\I64 (q8+q2)/\∃ (s':Nat × Nat),(fun (q10:List Int)=>(l=l/\c=c/\q6+q2=(↑(bD c (List.take s'.fst l)+List.count c (List.take s'.snd q10)):Int)/\q7=(↑s'.fst:Int)/\q8+q2=(↑s'.snd:Int))/\(s'.fst<q1/\s'.snd<=q10.length)/\s'.fst=q5/\q10.length - s'.snd<q9.length - s_1.snd) (l.getD s'.fst q0).chunks)/\(¬x_1=c->I64 (q8+q2)/\∃ (s':Nat × Nat),(fun (q11:List Int)=>(l=l/\c=c/\q6=(↑(bD c (List.take s'.fst l)+List.count c (List.take s'.snd q11)):Int)/\q7=(↑s'.fst:Int)/\q8+q2=(↑s'.snd:Int))/\(s'.fst<q1/\s'.snd<=q11.length)/\s'.fst=q5/\q11.length - s'.snd<q9.length - s_1.snd) (l.getD s'.fst q0).chunks))/\((↑x.chunks.length:Int)<=q8->I64 (q7+q2)/\∃ (s':Nat),(l=l/\c=c/\q6=(↑(bD c (List.take s' l)):Int)/\q7+q2=(↑s':Int))/\s' <= q1/\q1 - s' < q1 - s)) (↑(bD c (List.take s_1.fst l)+List.count c (List.take s_1.snd q9)):Int)) (↑s_1.fst:Int)) (↑s_1.snd:Int)) (l.getD s_1.fst q0).chunks) s0.fst)/\(q4<=(↑s:Int)->(↑(bD c (List.take s l)):Int)=r0)) (dflt (Sh.nm NT.snap))) l.length) (1:Int)) (0:Int)) (↑l.length:Int)):=by kernel_rfl
theorem yX (l:List Snap) (c:Int) (h0:nch l<=1048576):Sat Tryz.prog (aq aE) 102 [.c (.fz (.nm .snap) (l)),.c (.int (c))] [] ⟨[nch l<=1048576],[.c (.int (((bD c l:Int))))],none,false⟩:=by
 refine aO dE (vX l c) Tryz.func102 (by decide) (by kernel_rfl) ?_
 rw [Bo]
 (repeat' (first | with_reducible refine And.intro ?_ ?_ | with_reducible refine and_imp.2 ?_ | intro))
 all_goals try (first | (first | with_reducible rfl | with_reducible assumption | omega | (refine ai ?_ ?_ <;> omega)) | exact oa | exact kz | exact (ov (by with_reducible assumption) (by with_reducible assumption)) | exact (oD (by with_reducible assumption) (by with_reducible assumption) (by with_reducible assumption)) | exact (oR (by with_reducible assumption) (by with_reducible assumption) (by with_reducible assumption)) | exact (oo (by with_reducible assumption) (by with_reducible assumption)) | exact (oI (by with_reducible assumption) (by with_reducible assumption)) | exact (oB (by with_reducible assumption) (by with_reducible assumption)) | exact (pf (by omega)) | exact (oc (by with_reducible assumption) (by with_reducible assumption) (by with_reducible assumption)) | exact (oe (by with_reducible assumption) (by omega)))
 all_goals try (refine ⟨0,?_⟩; (repeat' (first | with_reducible refine And.intro ?_ ?_ | with_reducible refine and_imp.2 ?_ | intro)))
 all_goals try (first | (first | with_reducible rfl | with_reducible assumption | omega | (refine ai ?_ ?_ <;> omega)) | exact oa | exact kz | exact (ov (by with_reducible assumption) (by with_reducible assumption)) | exact (oD (by with_reducible assumption) (by with_reducible assumption) (by with_reducible assumption)) | exact (oR (by with_reducible assumption) (by with_reducible assumption) (by with_reducible assumption)) | exact (oo (by with_reducible assumption) (by with_reducible assumption)) | exact (oI (by with_reducible assumption) (by with_reducible assumption)) | exact (oB (by with_reducible assumption) (by with_reducible assumption)) | exact (pf (by omega)) | exact (oc (by with_reducible assumption) (by with_reducible assumption) (by with_reducible assumption)) | exact (oe (by with_reducible assumption) (by omega)))
 all_goals try (refine ⟨(‹Nat›,0),?_⟩; (repeat' (first | with_reducible refine And.intro ?_ ?_ | with_reducible refine and_imp.2 ?_ | intro)))
 all_goals try (first | (first | with_reducible rfl | with_reducible assumption | omega | (refine ai ?_ ?_ <;> omega)) | exact oa | exact kz | exact (ov (by with_reducible assumption) (by with_reducible assumption)) | exact (oD (by with_reducible assumption) (by with_reducible assumption) (by with_reducible assumption)) | exact (oR (by with_reducible assumption) (by with_reducible assumption) (by with_reducible assumption)) | exact (oo (by with_reducible assumption) (by with_reducible assumption)) | exact (oI (by with_reducible assumption) (by with_reducible assumption)) | exact (oB (by with_reducible assumption) (by with_reducible assumption)) | exact (pf (by omega)) | exact (oc (by with_reducible assumption) (by with_reducible assumption) (by with_reducible assumption)) | exact (oe (by with_reducible assumption) (by omega)))
 all_goals try (refine ⟨(‹Nat × Nat›.1,‹Nat × Nat›.2+1),?_⟩; (repeat' (first | with_reducible refine And.intro ?_ ?_ | with_reducible refine and_imp.2 ?_ | intro)))
 all_goals try (first | (first | with_reducible rfl | with_reducible assumption | omega | (refine ai ?_ ?_ <;> omega)) | exact oa | exact kz | exact (ov (by with_reducible assumption) (by with_reducible assumption)) | exact (oD (by with_reducible assumption) (by with_reducible assumption) (by with_reducible assumption)) | exact (oR (by with_reducible assumption) (by with_reducible assumption) (by with_reducible assumption)) | exact (oo (by with_reducible assumption) (by with_reducible assumption)) | exact (oI (by with_reducible assumption) (by with_reducible assumption)) | exact (oB (by with_reducible assumption) (by with_reducible assumption)) | exact (pf (by omega)) | exact (oc (by with_reducible assumption) (by with_reducible assumption) (by with_reducible assumption)) | exact (oe (by with_reducible assumption) (by omega)))
 all_goals try (refine ⟨‹Nat × Nat›.1+1,?_⟩; (repeat' (first | with_reducible refine And.intro ?_ ?_ | with_reducible refine and_imp.2 ?_ | intro)))
 all_goals try (first | (first | with_reducible rfl | with_reducible assumption | omega | (refine ai ?_ ?_ <;> omega)) | exact oa | exact kz | exact (ov (by with_reducible assumption) (by with_reducible assumption)) | exact (oD (by with_reducible assumption) (by with_reducible assumption) (by with_reducible assumption)) | exact (oR (by with_reducible assumption) (by with_reducible assumption) (by with_reducible assumption)) | exact (oo (by with_reducible assumption) (by with_reducible assumption)) | exact (oI (by with_reducible assumption) (by with_reducible assumption)) | exact (oB (by with_reducible assumption) (by with_reducible assumption)) | exact (pf (by omega)) | exact (oc (by with_reducible assumption) (by with_reducible assumption) (by with_reducible assumption)) | exact (oe (by with_reducible assumption) (by omega)))
 all_goals (first | (first | with_reducible rfl | with_reducible assumption | omega | (refine ai ?_ ?_ <;> omega)) | exact oa | exact kz | exact (ov (by with_reducible assumption) (by with_reducible assumption)) | exact (oD (by with_reducible assumption) (by with_reducible assumption) (by with_reducible assumption)) | exact (oR (by with_reducible assumption) (by with_reducible assumption) (by with_reducible assumption)) | exact (oo (by with_reducible assumption) (by with_reducible assumption)) | exact (oI (by with_reducible assumption) (by with_reducible assumption)) | exact (oB (by with_reducible assumption) (by with_reducible assumption)) | exact (pf (by omega)) | exact (oc (by with_reducible assumption) (by with_reducible assumption) (by with_reducible assumption)) | exact (oe (by with_reducible assumption) (by omega)))
theorem vg (l:List Snap) (id:Int) (r0:List Snap):cG aE lG (pb l id) Tryz.f105 [.c (.fz (.nm .snap) (l)),.c (.int (id))] [] [.c (.fz (.nm .snap) (r0))]=((fun (q2:Int)=>(fun (q1:Nat)=>(fun (q0:Nat)=>l.length*(64:Nat)<=q1->I64 id->∃ (s0:Nat),(l=l/\id=id/\(0:Int)=(↑s0:Int)/\aF id (List.take s0 l)=[])/\s0<=q0/\∀ (s:Nat),(fun (q4:List Snap)=>(fun (q3:Int)=>s<=q0->((↑s:Int)<q2->(0:Int)<=(↑s:Int)/\(↑s:Int)<q2/\∀ (x:Snap),l[s]? = some x->I64 x.id->I64 x.set->x.chunks.length*(8:Nat)<=q1->x.tag.b.length<=q1->(¬x.id=id->(0:Int)<=(↑s:Int)/\(↑s:Int)<q2/\∀ (x:Snap),l[s]? = some x->I64 x.id->I64 x.set->x.chunks.length*(8:Nat)<=q1->x.tag.b.length<=q1->(q4.length+[x].length)*(64:Nat)<=q1/\I64 q3/\∃ (s':Nat),(l=l/\id=id/\q3=(↑s':Int)/\q4++[x]=aF id (List.take s' l))/\s' <= q0/\q0 - s' < q0 - s)/\(x.id=id->I64 q3/\∃ (s':Nat),(l=l/\id=id/\q3=(↑s':Int)/\q4=aF id (List.take s' l))/\s' <= q0/\q0 - s' < q0 - s))/\(q2<=(↑s:Int)->q4=r0)) ((↑s:Int)+(1:Int))) (aF id (List.take s l))) l.length) (140737488355328:Nat)) (↑l.length:Int)):=by kernel_rfl
theorem uX (l:List Snap) (id:Int):Sat Tryz.prog (aq aE) 105 [.c (.fz (.nm .snap) (l)),.c (.int (id))] [] ⟨[],[.c (.fz (.nm .snap) ((aF id l)))],none,false⟩:=by
 refine aO dE (pb l id) Tryz.func105 (by decide) (by kernel_rfl) ?_
 rw [vg]
 (repeat' (first | with_reducible refine And.intro ?_ ?_ | with_reducible refine and_imp.2 ?_ | intro))
 all_goals try (first | (first | with_reducible rfl | with_reducible assumption | omega | (refine ai ?_ ?_ <;> omega)) | exact rfl | exact (iW (by with_reducible assumption) (by with_reducible assumption) (by with_reducible assumption)) | exact (ju (by with_reducible assumption) (by with_reducible assumption)) | exact (fO (by omega)) | exact (fP (by omega) (by omega)))
 all_goals try (refine ⟨0,?_⟩; (repeat' (first | with_reducible refine And.intro ?_ ?_ | with_reducible refine and_imp.2 ?_ | intro)))
 all_goals try (first | (first | with_reducible rfl | with_reducible assumption | omega | (refine ai ?_ ?_ <;> omega)) | exact rfl | exact (iW (by with_reducible assumption) (by with_reducible assumption) (by with_reducible assumption)) | exact (ju (by with_reducible assumption) (by with_reducible assumption)) | exact (fO (by omega)) | exact (fP (by omega) (by omega)))
 all_goals try (refine ⟨‹Nat› + 1,?_⟩; (repeat' (first | with_reducible refine And.intro ?_ ?_ | with_reducible refine and_imp.2 ?_ | intro)))
 all_goals (first | (first | with_reducible rfl | with_reducible assumption | omega | (refine ai ?_ ?_ <;> omega)) | exact rfl | exact (iW (by with_reducible assumption) (by with_reducible assumption) (by with_reducible assumption)) | exact (ju (by with_reducible assumption) (by with_reducible assumption)) | exact (fO (by omega)) | exact (fP (by omega) (by omega)))
def qN:cK:=(bE 105 (bz (aj (kC (cL (.nm .snap))) (aj (kC cI) aL)) aM fun (l,id,_) (_)=>⟨[],[.c (.fz (.nm .snap) ((aF id l)))],none,false⟩) (bE 102 (bz (aj (kC (cL (.nm .snap))) (aj (kC cI) aL)) aM fun (l,c,_) (_)=>⟨[nch l<=1048576],[.c (.int (((bD c l:Int))))],none,false⟩) (bE 98 (bz (aj (kT (.nm .state)) (aj (kC cI) aL)) aM fun (st,at_,_) (_)=>⟨[],[.c (.bool (.atom ((ep st at_))))],none,false⟩) (bE 103 (bz (aj (kT (.nm .state)) (aj (kC cI) aL)) aM fun (st,at_,_) (_)=>⟨[],[.c (.bool (.atom ((ep st at_))))],none,false⟩) (bE 64 (bz (aj (kT (.nm .state)) (aj (kC cI) aL)) aM fun (st,x,_) (_)=>⟨[],[.c (.int ((ag Snap.id x st.snaps)))],none,false⟩) (bE 59 (bz (aj (kT (.nm .state)) (aj (kC cI) aL)) aM fun (st,x,_) (_)=>⟨[],[.c (.int ((ag Opn.set x st.opens)))],none,false⟩) (bE 17 (bz (aj (kT (.nm .state)) (aj (kC cI) aL)) aM fun (st,x,_) (_)=>⟨[],[.c (.int ((ag Sess.client x st.sess)))],none,false⟩) (bE 71 (bz (aj (kC cI) (aj (kC cB) (aj (kC cI) (aj (kC cI) aL)))) aM fun (n,used,lo,hi,_) (_)=>⟨[],[.c (.bool (.atom ((fa n used lo hi))))],none,false⟩) (bE 70 (bz (aj (kC cI) aL) aM fun (x,_) (_)=>⟨[],[.c (.int ((bR x)))],none,false⟩) (bE 72 (bz (aj (kC (cL .int)) aL) aM fun (l,_) (_)=>⟨[],[.c (.bool (.atom ((ct l))))],none,false⟩) lG))))))))))
theorem eV:aV Tryz.prog (aq aE) qN:=(ax (aw (ab (av bn) (ab (av ay) ak)) al fun (l,id,_) (_) _=>uX l id ) (ax (aw (ab (av bn) (ab (av ay) ak)) al fun (l,c,_) (_) hp=>yX l c (dR hp)) (ax (aw (ab bf (ab (av ay) ak)) al fun (st,at_,_) (_) _=>HB st at_ ) (ax (aw (ab bf (ab (av ay) ak)) al fun (st,at_,_) (_) _=>CS st at_ ) (ax (aw (ab bf (ab (av ay) ak)) al fun (st,x,_) (_) _=>DF st x ) (ax (aw (ab bf (ab (av ay) ak)) al fun (st,x,_) (_) _=>wW st x ) (ax (aw (ab bf (ab (av ay) ak)) al fun (st,x,_) (_) _=>yr st x ) (ax (aw (ab (av ay) (ab (av oY) (ab (av ay) (ab (av ay) ak)))) al fun (n,used,lo,hi,_) (_) _=>zm n used lo hi ) (ax (aw (ab (av ay) ak) al fun (x,_) (_) _=>DM x ) (ax (aw (ab (av bn) ak) al fun (l,_) (_) _=>GJ l ) dE))))))))))
end Go.Proofs.YtdggohppeeaipaaGreat
namespace Go.Proofs.YtdggohppeeaipaaGreat
open Go.RowKit
theorem uG {α:Type} {l:List α} {k:Nat} {d:α} (h:(k:Int)<l.length):l.set k (l.getD k d)=l:=by
 have hk:k<l.length:=by omega
 rw [List.getD_eq_getElem?_getD,List.getElem?_eq_getElem hk]; exact List.set_getElem_self hk
theorem uf {l:List Snap} {k:Nat} {x:Snap} (h:(k:Int)<l.length) (hl:l.length*64<=140737488355328):((l.take k).length+[x].length)*64<=140737488355328:=by
 rw [List.length_take]; simp only [List.length_cons,List.length_nil]; omega
def cW (l:List Snap) (k:Nat):Nat:=((List.range k).filter fun (i:Nat)=>decide (0<bD ((i:Int)+1) l)).length
def distF (l:List Snap):Nat:=cW l 64
theorem uv {l:List Snap} {k:Nat} (h:0<((bD ((k:Int)+1) l:Nat):Int)):(cW l k:Int)+1=(cW l (k+1):Int):=by
 unfold cW; rw [List.range_succ,List.filter_append,List.length_append]
 have:0<bD ((k:Int)+1) l:=by omega
 simp [this]
theorem tN {l:List Snap} {k:Nat} (h:((bD ((k:Int)+1) l:Nat):Int)<=0):(cW l k:Int)=(cW l (k+1):Int):=by
 unfold cW; rw [List.range_succ,List.filter_append,List.length_append]
 have:¬ 0<bD ((k:Int)+1) l:=by omega
 simp [this]
theorem EP {l:List Snap} {k:Nat}:cW l k<=k:=by
 unfold cW; refine Nat.le_trans (List.length_filter_le _ _) ?_; simp
theorem uN {l:List Snap} {k:Nat} (h:k<=64):I64 ((cW l k:Int)+1):=by
 have:=EP (l:=l) (k:=k); constructor <;> omega
theorem tW {l:List Snap} {k:Nat} (h:k<=64) (h2:64<(k:Int)+1):(cW l k:Int)=(distF l:Int):=by
 rw [show k=64 by omega]; rfl
def zY (st:State):List (Nat × LI):=[(5,{ σ:=Nat,F:=fun k=>([(1,one (.ptr 0 0)),(2,one (.ptr 1 0)),(18,one (.int st.snaps.length)),(19,one (.int k))],[.box 26 ([.int ((st.version)),.int ((st.next)),.int ((st.keep)),.int ((st.quota)),.own 2,.own 3,.own 4]),.box 26 ([.int ((0)),.int ((0)),.int ((0)),.int ((0)),.em true,.em true,.em true]),.row 44 (.nm .sess) ((st.sess)),.row 77 (.nm .opn) ((st.opens)),.row 59 (.nm .snap) ((st.snaps))]),J:=fun k=>k<=st.snaps.length,μ:=fun k=>st.snaps.length - k })]
def zn (st:State):List (Nat × LI):=[(6,{ σ:=Nat,F:=fun k=>([(1,one (.ptr 0 0)),(2,one (.ptr 1 0)),(3,one (.ptr 2 0)),(4,one (.int k))],[.box 26 (cellsOf (.nm .state) ((st))),.box 26 ([.int ((0)),.int ((0)),.int ((0)),.int ((0)),.em true,.em true,.em true]),.box 26 ([.int ((st.version)),.int ((st.next)),.int ((st.keep)),.int ((st.quota)),.own 3,.own 4,.own 5]),.row 44 (.nm .sess) ((st.sess)),.row 77 (.nm .opn) ((st.opens)),.row 59 (.nm .snap) ((st.snaps.take k))]),J:=fun k=>k<=st.snaps.length,μ:=fun k=>st.snaps.length - k })]
def nM (l:List Snap):List (Nat × LI):=[(3,{ σ:=Nat,F:=fun k=>([(0,one (.fz (.nm .snap) (l))),(3,one (.int (cW l k))),(4,one (.int (k+1)))],[]),J:=fun k=>k<=64,μ:=fun k=>64 - k })]
theorem GP (st:State) (v:Int) (r0:Int):cG aE qN [] Tryz.f77 [.agg (cellsOf (.nm .state) st),.c (.int (v))] [] [.c (.int (r0))]=((fun (q12:Int)=>(fun (q11:Bool)=>(fun (q10:Bool)=>(fun (q9:Int)=>(fun (q8:Int)=>(fun (q7:Int)=>(fun (q6:Int)=>(fun (q5:Int)=>(fun (q4:Int)=>(fun (q3:Prop)=>(fun (q2:Prop)=>(fun (q1:Prop)=>(fun (q0:Prop)=>I64 st.version->I64 q12->I64 st.keep->I64 q8->st.sess.length*(32:Nat)<=(140737488355328:Nat)->st.opens.length*(16:Nat)<=(140737488355328:Nat)->st.snaps.length*(64:Nat)<=(140737488355328:Nat)->I64 v->(aX v q6 q9=false->q6=r0)/\(aX v q6 q9=true->(v<q9->q5<=q7/\q5<=q7/\(((q0/\aX q8 q4 q4=true)/\q1)/\q2->q6<=q12/\q12<=q7)/\((((q3\/aX q8 q4 q4=false)\/ao Sess.client q5 q4 st.sess=false\/q11=false)\/ao Opn.set q5 q4 st.opens=false\/q10=false)\/dD st v=false->(6:Int)=r0)/\((((q0/\aX q8 q4 q4=true)/\q1)/\q2)/\dD st v=true->q4=r0))/\(q9<=v->q5<=q7/\q5<=q7/\(((q0/\aX q8 q4 (64:Int)=true)/\q1)/\q2->q6<=q12/\q12<=q7)/\((((q3\/aX q8 q4 (64:Int)=false)\/ao Sess.client q5 q4 st.sess=false\/q11=false)\/ao Opn.set q5 q4 st.opens=false\/q10=false)\/dD st v=false->(6:Int)=r0)/\((((q0/\aX q8 q4 (64:Int)=true)/\q1)/\q2)/\dD st v=true->q4=r0)))) ((aX st.version q6 q9=true/\aX q12 q6 q7=true)/\aX st.keep q4 q5=true)) (ao Sess.client q5 q4 st.sess=true/\q11=true)) (ao Opn.set q5 q4 st.opens=true/\q10=true)) ((aX st.version q6 q9=false\/aX q12 q6 q7=false)\/aX st.keep q4 q5=false)) (0:Int)) (8:Int)) (1:Int)) (1048576:Int)) st.quota) (3:Int)) (st.opens.all aR)) (st.sess.all aQ)) st.next):=by kernel_rfl
theorem GH (st:State) (v:Int):Sat Tryz.prog (aq aE) 77 [.agg (cellsOf (.nm .state) st),.c (.int (v))] [] ⟨[],[.c (.int ((mayF st v)))],none,false⟩:=by
 refine aO eV [] Tryz.func77 (by decide) (by kernel_rfl) ?_
 rw [GP]
 (repeat' (first | with_reducible refine And.intro ?_ ?_ | with_reducible refine and_imp.2 ?_ | intro))
 all_goals (first | (first | with_reducible rfl | with_reducible assumption | omega | (refine ai ?_ ?_ <;> omega)) | exact (qP (a:=1) (b:=1048576) (by with_reducible assumption)).1 | exact (qP (a:=1) (b:=1048576) (by with_reducible assumption)).2 | (simp only [mayF,dj,iO,ga]; grind))
theorem Dj (c:Command) (v:Int) (r0:Int):cG aE qN [] Tryz.f84 [.agg (cellsOf (.nm .command) c),.c (.int (v))] [] [.c (.int (r0))]=((fun (q0:Int)=>I64 c.kind->I64 c.client->I64 c.seq->I64 c.set->I64 c.id->I64 c.n->c.chunks.length*(8:Nat)<=(140737488355328:Nat)->c.text.b.length<=(140737488355328:Nat)->I64 v->I64 q0->(kb v=false\/q0=(0:Int)->(1:Int)=r0)/\(kb v=true/\¬q0=(0:Int)->(v<q0->(10:Int)=r0)/\(q0<=v->(eA c=false->(1:Int)=r0)/\(eA c=true->(0:Int)=r0)))) (bR c.kind)):=by kernel_rfl
theorem EC (c:Command) (v:Int):Sat Tryz.prog (aq aE) 84 [.agg (cellsOf (.nm .command) c),.c (.int (v))] [] ⟨[],[.c (.int ((bd c v)))],none,false⟩:=by
 refine aO eV [] Tryz.func84 (by decide) (by kernel_rfl) ?_
 rw [Dj]
 rw [show kb v=aX v 1 3 from rfl]
 (repeat' (first | with_reducible refine And.intro ?_ ?_ | with_reducible refine and_imp.2 ?_ | intro))
 all_goals (first | (first | with_reducible rfl | with_reducible assumption | omega | (refine ai ?_ ?_ <;> omega)) | (simp only [bd]; grind))
theorem Df (st:State) (r0:Int) (r1:Int) (r2:Int) (r3:Int) (r4:List Sess) (r5:List Opn) (r6:List Snap):lA aE qN (zY st) Tryz.f32 [.agg (cellsOf (.nm .state) st)] [] [.agg ([.int (r0),.int (r1),.int (r2),.int (r3),.own 0,.own 1,.own 2])] [.row 44 (.nm .sess) (r4),.row 77 (.nm .opn) (r5),.row 59 (.nm .snap) (r6)]=((fun (q4:Int)=>(fun (q3:Nat)=>(fun (q2:den (Sh.nm NT.snap))=>(fun (q1:Prop)=>(fun (q0:List Snap)=>I64 q4->I64 st.next->I64 st.keep->I64 st.quota->st.sess.length*(32:Nat)<=q3->st.opens.length*(16:Nat)<=q3->q0.length*(64:Nat)<=q3->∃ (s0:Nat),(fun (q5:Nat)=>((↑q0.length:Int)=(↑q5:Int)/\(0:Int)=(↑s0:Int)/\q4=q4/\st.next=st.next/\st.keep=st.keep/\st.quota=st.quota/\q1/\q1/\q1/\q1/\st.sess=st.sess/\st.opens=st.opens/\q0=q0)/\s0<=q5/\∀ (s:Nat),(fun (q7:den (Sh.nm NT.snap))=>(fun (q6:Prop)=>s<=q5->((↑s:Int)<(↑q5:Int)->(0:Int)<=(↑s:Int)/\(↑s:Int)<(↑q0.length:Int)/\(0:Int)<=(↑s:Int)/\(↑s:Int)<(↑q0.length:Int)/\(I64 q7.id->I64 q7.set->q6->q7.tag.b.length<=q3->q6->I64 q7.id->I64 q7.set->q6->q7.tag.b.length<=q3->I64 ((↑s:Int)+(1:Int))/\∃ (s':Nat),((↑q5:Int)=(↑q5:Int)/\(↑s:Int)+(1:Int)=(↑s':Int)/\q4=q4/\st.next=st.next/\st.keep=st.keep/\st.quota=st.quota/\q1/\q1/\q1/\q1/\st.sess=st.sess/\st.opens=st.opens/\q0.set s q7=q0)/\s' <= q5/\q5 - s' < q5 - s))/\((↑q5:Int)<=(↑s:Int)->q4=r0/\st.next=r1/\st.keep=r2/\st.quota=r3/\st.sess=r4/\st.opens=r5/\q0=r6)) (q7.chunks.length*(8:Nat)<=q3)) (q0.getD s q2)) q0.length) st.snaps) ((0:Int)=(0:Int))) (dflt (Sh.nm NT.snap))) (140737488355328:Nat)) st.version):=by kernel_rfl
theorem DL (st:State):Sat Tryz.prog (aq aE) 32 [.agg (cellsOf (.nm .state) st)] [] ⟨[],[.agg ([.int ((st.version)),.int ((st.next)),.int ((st.keep)),.int ((st.quota)),.own 0,.own 1,.own 2])],some ([.row 44 (.nm .sess) ((st.sess)),.row 77 (.nm .opn) ((st.opens)),.row 59 (.nm .snap) ((st.snaps))]),true⟩:=by
 refine cO eV (zY st) Tryz.func32 (by decide) (by kernel_rfl) ?_
 rw [Df]
 (repeat' (first | with_reducible refine And.intro ?_ ?_ | with_reducible refine and_imp.2 ?_ | intro))
 all_goals try (first | (first | with_reducible rfl | with_reducible assumption | omega | (refine ai ?_ ?_ <;> omega)) | exact rfl | exact (uG (by omega)))
 all_goals try (refine ⟨0,?_⟩; (repeat' (first | with_reducible refine And.intro ?_ ?_ | with_reducible refine and_imp.2 ?_ | intro)))
 all_goals try (first | (first | with_reducible rfl | with_reducible assumption | omega | (refine ai ?_ ?_ <;> omega)) | exact rfl | exact (uG (by omega)))
 all_goals try (refine ⟨‹Nat› + 1,?_⟩; (repeat' (first | with_reducible refine And.intro ?_ ?_ | with_reducible refine and_imp.2 ?_ | intro)))
 all_goals (first | (first | with_reducible rfl | with_reducible assumption | omega | (refine ai ?_ ?_ <;> omega)) | exact rfl | exact (uG (by omega)))
theorem DX (st:State) (r0:Int) (r1:Int) (r2:Int) (r3:Int) (r4:List Sess) (r5:List Opn) (r6:List Snap):lA aE qN (zn st) Tryz.f20 [.agg (cellsOf (.nm .state) st)] [] [.agg ([.int (r0),.int (r1),.int (r2),.int (r3),.own 0,.own 1,.own 2])] [.row 44 (.nm .sess) (r4),.row 77 (.nm .opn) (r5),.row 59 (.nm .snap) (r6)]=((fun (q8:Prop)=>(fun (q7:Prop)=>(fun (q6:Prop)=>(fun (q5:Nat)=>(fun (q4:Prop)=>(fun (q3:Prop)=>(fun (q2:Int)=>(fun (q1:List Snap)=>(fun (q0:Prop)=>I64 q2->I64 st.next->I64 st.keep->I64 st.quota->st.sess.length*(32:Nat)<=q5->st.opens.length*(16:Nat)<=q5->q1.length*(64:Nat)<=q5->st.sess.length*(32:Nat)<=q5/\st.opens.length*(16:Nat)<=q5/\∃ (s0:Nat),((0:Int)=(↑s0:Int)/\q2=q2/\q7/\q6/\q3/\q8/\q4/\q1=q1/\q0/\q0/\q0/\q0/\q2=q2/\q7/\q6/\q3/\q8/\q4/\List.take s0 q1=[])/\s0<=q1.length/\∀ (s:Nat),s<=q1.length->((↑s:Int)<(↑q1.length:Int)->(0:Int)<=(↑s:Int)/\(↑s:Int)<(↑q1.length:Int)/\∀ (x:Snap),(fun (q9:Prop)=>q1[s]? = some x->I64 x.id->I64 x.set->q9->x.tag.b.length<=q5->q9/\((List.take s q1).length+[x].length)*(64:Nat)<=q5/\I64 ((↑s:Int)+(1:Int))/\∃ (s':Nat),((↑s:Int)+(1:Int)=(↑s':Int)/\q2=q2/\q7/\q6/\q3/\q8/\q4/\q1=q1/\q0/\q0/\q0/\q0/\q2=q2/\q7/\q6/\q3/\q8/\q4/\List.take s q1++[x]=List.take s' q1)/\s' <= q1.length/\q1.length - s' < q1.length - s) (x.chunks.length*(8:Nat)<=q5))/\((↑q1.length:Int)<=(↑s:Int)->q2=r0/\st.next=r1/\st.keep=r2/\st.quota=r3/\st.sess=r4/\st.opens=r5/\List.take s q1=r6)) ((0:Int)=(0:Int))) st.snaps) st.version) (st.quota=st.quota)) (st.opens=st.opens)) (140737488355328:Nat)) (st.keep=st.keep)) (st.next=st.next)) (st.sess=st.sess)):=by kernel_rfl
theorem EL (st:State):Sat Tryz.prog (aq aE) 20 [.agg (cellsOf (.nm .state) st)] [] ⟨[],[.agg ([.int ((st.version)),.int ((st.next)),.int ((st.keep)),.int ((st.quota)),.own 0,.own 1,.own 2])],some ([.row 44 (.nm .sess) ((st.sess)),.row 77 (.nm .opn) ((st.opens)),.row 59 (.nm .snap) ((st.snaps))]),true⟩:=by
 refine cO eV (zn st) Tryz.func20 (by decide) (by kernel_rfl) ?_
 rw [DX]
 (repeat' (first | with_reducible refine And.intro ?_ ?_ | with_reducible refine and_imp.2 ?_ | intro))
 all_goals try (first | (first | with_reducible rfl | with_reducible assumption | omega | (refine ai ?_ ?_ <;> omega)) | exact rfl | exact (az (by with_reducible assumption)).symm | exact (List.take_of_length_le (by omega)) | exact (uf (by omega) (by omega)))
 all_goals try (refine ⟨0,?_⟩; (repeat' (first | with_reducible refine And.intro ?_ ?_ | with_reducible refine and_imp.2 ?_ | intro)))
 all_goals try (first | (first | with_reducible rfl | with_reducible assumption | omega | (refine ai ?_ ?_ <;> omega)) | exact rfl | exact (az (by with_reducible assumption)).symm | exact (List.take_of_length_le (by omega)) | exact (uf (by omega) (by omega)))
 all_goals try (refine ⟨‹Nat› + 1,?_⟩; (repeat' (first | with_reducible refine And.intro ?_ ?_ | with_reducible refine and_imp.2 ?_ | intro)))
 all_goals (first | (first | with_reducible rfl | with_reducible assumption | omega | (refine ai ?_ ?_ <;> omega)) | exact rfl | exact (az (by with_reducible assumption)).symm | exact (List.take_of_length_le (by omega)) | exact (uf (by omega) (by omega)))
theorem yq (x:Snap) (n:Int) (v:Int) (r0:Bool):cG aE (Dk qN) [] Tryz.f68 [.agg (cellsOf (.nm .snap) x),.c (.int (n)),.c (.int (v))] [] [.c (.bool (.atom (r0)))]=(I64 x.id->I64 x.set->x.chunks.length*(8:Nat)<=(140737488355328:Nat)->x.tag.b.length<=(140737488355328:Nat)->I64 n->I64 v->(ct x.chunks && aX x.id (1:Int) (fl n (1:Int)) && aX x.set (1:Int) (8:Int) && (!x.held || decide ((2:Int)<=v)) && decide ((↑x.tag.b.length:Int)<=(16:Int)) && (decide (x.tag=Str.mk []) || decide ((3:Int)<=v)))=r0):=by kernel_rfl
theorem xc (x:Snap) (n:Int) (v:Int):Sat Tryz.prog (aq aE) 68 [.agg (cellsOf (.nm .snap) x),.c (.int (n)),.c (.int (v))] [] ⟨[],[.c (.bool (.atom ((ea n v x))))],none,false⟩:=by
 refine aO (vJ eV) [] Tryz.func68 (by decide) (by kernel_rfl) ?_
 rw [yq]
 intros; rfl
theorem EV (x:Snap) (y:Snap) (r0:Bool):cG aE qN [] Tryz.f106 [.agg (cellsOf (.nm .snap) x),.agg (cellsOf (.nm .snap) y)] [] [.c (.bool (.atom (r0)))]=(I64 x.id->I64 x.set->x.chunks.length*(8:Nat)<=(140737488355328:Nat)->x.tag.b.length<=(140737488355328:Nat)->I64 y.id->I64 y.set->y.chunks.length*(8:Nat)<=(140737488355328:Nat)->y.tag.b.length<=(140737488355328:Nat)->(decide (x.chunks=y.chunks) && decide (x.id=y.id) && decide (x.set=y.set) && x.held == y.held && decide (x.tag=y.tag))=r0):=by kernel_rfl
theorem Dn (x:Snap) (y:Snap):Sat Tryz.prog (aq aE) 106 [.agg (cellsOf (.nm .snap) x),.agg (cellsOf (.nm .snap) y)] [] ⟨[],[.c (.bool (.atom ((decide (x=y)))))],none,false⟩:=by
 refine aO eV [] Tryz.func106 (by decide) (by kernel_rfl) ?_
 rw [EV]
 intros; cases x; cases y; simp only [Snap.mk.injEq]; grind
theorem tr (l:List Snap) (r0:Int):cG aE qN (nM l) Tryz.f63 [.c (.fz (.nm .snap) (l))] [] [.c (.int (r0))]=((fun (q1:Nat)=>(fun (q0:Int)=>l.length*q1<=(140737488355328:Nat)->∃ (s0:Nat),(l=l/\(0:Int)=(↑(cW l s0):Int)/\q0=(↑s0:Int)+q0)/\s0<=q1/\∀ (s:Nat),(fun (q3:Int)=>(fun (q2:Int)=>s<=q1->(q2<=(64:Int)->nch l<=(1048576:Nat)/\(I64 (↑(bD q2 l):Int)->((0:Int)<(↑(bD q2 l):Int)->I64 (q3+q0)/\I64 (q2+q0)/\∃ (s':Nat),(l=l/\q3+q0=(↑(cW l s'):Int)/\q2+q0=(↑s':Int)+q0)/\s' <= q1/\q1 - s' < q1 - s)/\((↑(bD q2 l):Int)<=(0:Int)->I64 (q2+q0)/\∃ (s':Nat),(l=l/\q3=(↑(cW l s'):Int)/\q2+q0=(↑s':Int)+q0)/\s' <= q1/\q1 - s' < q1 - s)))/\((64:Int)<q2->q3=r0)) ((↑s:Int)+q0)) (↑(cW l s):Int)) (1:Int)) (64:Nat)):=by kernel_rfl
theorem sx (l:List Snap) (h0:nch l<=1048576):Sat Tryz.prog (aq aE) 63 [.c (.fz (.nm .snap) (l))] [] ⟨[nch l<=1048576],[.c (.int (((distF l:Int))))],none,false⟩:=by
 refine aO eV (nM l) Tryz.func63 (by decide) (by kernel_rfl) ?_
 rw [tr]
 (repeat' (first | with_reducible refine And.intro ?_ ?_ | with_reducible refine and_imp.2 ?_ | intro))
 all_goals try (first | (first | with_reducible rfl | with_reducible assumption | omega | (refine ai ?_ ?_ <;> omega)) | exact rfl | exact (uv (by omega)) | exact (tN (by omega)) | exact (uN (by omega)) | exact (tW (by omega) (by omega)))
 all_goals try (refine ⟨0,?_⟩; (repeat' (first | with_reducible refine And.intro ?_ ?_ | with_reducible refine and_imp.2 ?_ | intro)))
 all_goals try (first | (first | with_reducible rfl | with_reducible assumption | omega | (refine ai ?_ ?_ <;> omega)) | exact rfl | exact (uv (by omega)) | exact (tN (by omega)) | exact (uN (by omega)) | exact (tW (by omega) (by omega)))
 all_goals try (refine ⟨‹Nat› + 1,?_⟩; (repeat' (first | with_reducible refine And.intro ?_ ?_ | with_reducible refine and_imp.2 ?_ | intro)))
 all_goals (first | (first | with_reducible rfl | with_reducible assumption | omega | (refine ai ?_ ?_ <;> omega)) | exact rfl | exact (uv (by omega)) | exact (tN (by omega)) | exact (uN (by omega)) | exact (tW (by omega) (by omega)))
def oS:cK:=(bE 63 (bz (aj (kC (cL (.nm .snap))) aL) aM fun (l,_) (_)=>⟨[nch l<=1048576],[.c (.int (((distF l:Int))))],none,false⟩) (bE 106 (bz (aj (kT (.nm .snap)) (aj (kT (.nm .snap)) aL)) aM fun (x,y,_) (_)=>⟨[],[.c (.bool (.atom ((decide (x=y)))))],none,false⟩) (bE 68 (bz (aj (kT (.nm .snap)) (aj (kC cI) (aj (kC cI) aL))) aM fun (x,n,v,_) (_)=>⟨[],[.c (.bool (.atom ((ea n v x))))],none,false⟩) (bE 20 (bz (aj (kT (.nm .state)) aL) aM fun (st,_) (_)=>⟨[],[.agg ([.int ((st.version)),.int ((st.next)),.int ((st.keep)),.int ((st.quota)),.own 0,.own 1,.own 2])],some ([.row 44 (.nm .sess) ((st.sess)),.row 77 (.nm .opn) ((st.opens)),.row 59 (.nm .snap) ((st.snaps))]),true⟩) (bE 32 (bz (aj (kT (.nm .state)) aL) aM fun (st,_) (_)=>⟨[],[.agg ([.int ((st.version)),.int ((st.next)),.int ((st.keep)),.int ((st.quota)),.own 0,.own 1,.own 2])],some ([.row 44 (.nm .sess) ((st.sess)),.row 77 (.nm .opn) ((st.opens)),.row 59 (.nm .snap) ((st.snaps))]),true⟩) (bE 84 (bz (aj (kT (.nm .command)) (aj (kC cI) aL)) aM fun (c,v,_) (_)=>⟨[],[.c (.int ((bd c v)))],none,false⟩) (bE 77 (bz (aj (kT (.nm .state)) (aj (kC cI) aL)) aM fun (st,v,_) (_)=>⟨[],[.c (.int ((mayF st v)))],none,false⟩) qN)))))))
theorem gh:aV Tryz.prog (aq aE) oS:=(ax (aw (ab (av bn) ak) al fun (l,_) (_) hp=>sx l (dR hp)) (ax (aw (ab bf (ab bf ak)) al fun (x,y,_) (_) _=>Dn x y ) (ax (aw (ab bf (ab (av ay) (ab (av ay) ak))) al fun (x,n,v,_) (_) _=>xc x n v ) (ax (aw (ab bf ak) al fun (st,_) (_) _=>EL st ) (ax (aw (ab bf ak) al fun (st,_) (_) _=>DL st ) (ax (aw (ab bf (ab (av ay) ak)) al fun (c,v,_) (_) _=>EC c v ) (ax (aw (ab bf (ab (av ay) ak)) al fun (st,v,_) (_) _=>GH st v ) eV)))))))
end Go.Proofs.YtdggohppeeaipaaGreat
