/- What leads to the law, part 4. Conditions: each lemma's own. -/
import Derived.Test.YtdggohppeeaipaaGreatKGM3
set_option linter.unusedVariables false
set_option linter.unusedSimpArgs false
namespace Go.Proofs.YtdggohppeeaipaaGreat
open Go.RowKit
theorem lx (z:Array Value) (n:Nat):(Builtin.zeroCells z n).toList.length=n*z.size:=by rw [Array.length_toList,size_zeroCells]
theorem aW {w:World} {g:Nat} {o:Obj} (h:w.heap[g]? = some o):g<w.heap.size:=(Array.getElem?_eq_some_iff.1 h).1
theorem b_:(Tryz.prog.info? 44).map (·.size)=some 4:=by kernel_rfl
theorem zL:(Tryz.prog.info? 44).map (fun i=>(i.zero,i.size,i.bytes))=some (some (.agg #[.int .i64 0,.int .i64 0,.int .i64 0,.int .i64 0]),4,32):=by kernel_rfl
set_option maxRecDepth 100000 in
set_option maxHeartbeats 1000000 in
theorem qK {w:World} {n c vc:Nat} {A:Option Addr} {B:Option Addr} {φ:Value->World->Prop} (happ:∀ (F:Fr) (x y:Operand) (ty:TypeId),ev F x=some (.slice A n c)->ev F y=some (.slice B 1 vc)->∃ v2 w2,aL Tryz.prog 95 F w (.call { callee:=.builtin .append,args:=#[x,y],argTypes:=#[22,22] }) ty v2 w2/\φ v2 w2) :
  gK Tryz.prog 36 [.slice A n c,.int .i64 (n:Int),.slice B 1 vc].toArray w φ:=by
 refine gK.enter Tryz.func36 rfl rfl rfl rfl ?_
 refine WC.seq ?_
 refine WC.region ?_
 refine WO.v (R.assign rfl) rfl ?_
 refine WO.nil ?_
 refine WX.next ?_
 refine WC.seq ?_
 refine WC.region ?_
 refine WO.v (R.move rfl) rfl ?_
 refine WO.v (R.move rfl) rfl ?_
 refine WO.v (R.bX rfl rfl Tryz.underlying22 b_ rfl (by omega)) rfl ?_
 refine WO.nil ?_
 refine WX.next ?_
 refine WC.seq ?_
 refine WC.region ?_
 refine WO.v (R.move rfl) rfl ?_
 refine WO.v (R.len rfl Tryz.underlying22) rfl ?_
 refine WO.v (R.assign rfl) rfl ?_
 refine WO.nil ?_
 refine WX.next ?_
 refine WC.seq ?_
 refine WC.seq ?_
 refine WC.region ?_
 refine WO.v (R.move rfl) rfl ?_
 refine WO.v (R.eql rfl rfl) rfl ?_
 refine WO.nil ?_
 refine WX.next ?_
 refine WC.cond rfl (fun q=>absurd (of_decide_eq_true q) (by omega)) (fun _=>?_)
 refine WC.skip ?_
 refine WX.next ?_
 refine WC.seq ?_
 refine WC.region ?_
 refine WO.v (R.move rfl) rfl ?_
 refine WO.v (R.len rfl Tryz.underlying22) rfl ?_
 refine WO.v (R.assign rfl) rfl ?_
 refine WO.nil ?_
 refine WX.next ?_
 refine WC.seq ?_
 refine WC.seq ?_
 refine WC.region ?_
 refine WO.v (R.move rfl) rfl ?_
 refine WO.v (R.move rfl) rfl ?_
 refine WO.v (R.eql rfl rfl) rfl ?_
 refine WO.nil ?_
 refine WX.next ?_
 refine WC.cond rfl (fun _=>?_) (fun q=>absurd rfl (of_decide_eq_false q))
 refine WC.seq ?_
 refine WC.region ?_
 refine WO.v (R.move rfl) rfl ?_
 refine WO.v (R.move rfl) rfl ?_
 refine WO.ve (happ _ _ _ _ rfl rfl) rfl fun v2 w2 hv2=>?_
 refine WO.v (R.assign rfl) rfl ?_
 refine WO.nil ?_
 refine WX.next ?_
 refine WC.ret ?_
 refine WX.gA ?_
 refine WX.sD rfl rfl ?_
 exact hv2
set_option maxRecDepth 100000 in
set_option maxHeartbeats 1000000 in
theorem oM {w W1:World} {g b n i c vc G:Nat} {ad:Addr} {cur vs ds:List Value} (hi:i<n) (hnc:n<=c) (hc:c<n+1) (hcm:c<=maxLen) (hG:n+1<=G) (hGm:G<=maxLen)
  (happ:∀ (F:Fr) (x y:Operand) (ty:TypeId),ev F x=some (.slice (some ⟨g,0*4,none⟩) i c)->ev F y=some (.int .i64 ((n+1 - i:Nat):Int))->aL Tryz.prog 95 F w (.call { callee:=.builtin .append,args:=#[x,y],argTypes:=#[22,3] }) ty (.slice (some ⟨b,0,none⟩) (n+1) G) W1)
  (hrow:W1.heap[b]? = some (.cells cur.toArray 44 (0,0))) (hcur:(n+1)*4<=cur.length) (hv:CellsAt W1 ad vs) (hvl:vs.length=4) (hd:CellsAt W1 ⟨g,i*4,none⟩ ds) (hgb:g≠b) (hgl:g<W1.heap.size) (hdl:ds.length=(n - i)*4)
  (h1v:∀ u ∈ vs,u.oneCell' = true) (h1d:∀ u ∈ ds,u.oneCell' = true) :
  gK Tryz.prog 36 [.slice (some ⟨g,0,none⟩) n c,.int .i64 (i:Int),.slice (some ad) 1 vc].toArray w fun v w'=>v = .slice (some ⟨b,0,none⟩) (n+1) G/\∃ w1,Kp [] (W1.setRow b (cur.take (i*4)++vs++cur.drop (i*4+vs.length)).toArray) w1/\w' = w1.setRow b ((cur.take (i*4)++vs++cur.drop (i*4+vs.length)).take ((i+1)*4)++ds++(cur.take (i*4)++vs++cur.drop (i*4+vs.length)).drop ((i+1)*4+ds.length)).toArray:=by
 have hGm:G<=9223372036854775807:=hGm
 have hcm:c<=9223372036854775807:=hcm
 have hn1:vs.length=Nat.min 1 (n+1 - i)*4:=by rw [show Nat.min 1 (n+1 - i)=1 from Nat.min_eq_left (by omega),Nat.one_mul]; exact hvl
 have hn2:ds.length=Nat.min (n - i) (n+1 - (i+1))*4:=by rw [show Nat.min (n - i) (n+1 - (i+1))=n - i from Nat.min_eq_left (by omega)]; exact hdl
 refine gK.enter Tryz.func36 rfl rfl rfl rfl ?_
 refine WC.seq ?_
 refine WC.region ?_
 refine WO.v (R.assign rfl) rfl ?_
 refine WO.nil ?_
 refine WX.next ?_
 refine WC.seq ?_
 refine WC.region ?_
 refine WO.v (R.move rfl) rfl ?_
 refine WO.v (R.move rfl) rfl ?_
 refine WO.v (R.bX rfl rfl Tryz.underlying22 b_ rfl (by omega)) rfl ?_
 refine WO.nil ?_
 refine WX.next ?_
 refine WC.seq ?_
 refine WC.region ?_
 refine WO.v (R.move rfl) rfl ?_
 refine WO.v (R.len rfl Tryz.underlying22) rfl ?_
 refine WO.v (R.assign rfl) rfl ?_
 refine WO.nil ?_
 refine WX.next ?_
 refine WC.seq ?_
 refine WC.seq ?_
 refine WC.region ?_
 refine WO.v (R.move rfl) rfl ?_
 refine WO.v (R.eql rfl rfl) rfl ?_
 refine WO.nil ?_
 refine WX.next ?_
 refine WC.cond rfl (fun q=>absurd (of_decide_eq_true q) (by omega)) (fun _=>?_)
 refine WC.skip ?_
 refine WX.next ?_
 refine WC.seq ?_
 refine WC.region ?_
 refine WO.v (R.move rfl) rfl ?_
 refine WO.v (R.len rfl Tryz.underlying22) rfl ?_
 refine WO.v (R.assign rfl) rfl ?_
 refine WO.nil ?_
 refine WX.next ?_
 refine WC.seq ?_
 refine WC.seq ?_
 refine WC.region ?_
 refine WO.v (R.move rfl) rfl ?_
 refine WO.v (R.move rfl) rfl ?_
 refine WO.v (R.eql rfl rfl) rfl ?_
 refine WO.nil ?_
 refine WX.next ?_
 refine WC.cond rfl (fun q=>absurd (of_decide_eq_true q) (by omega)) (fun _=>?_)
 refine WC.skip ?_
 refine WX.next ?_
 refine WC.seq ?_
 refine WC.seq ?_
 refine WC.region ?_
 refine WO.v (R.move rfl) rfl ?_
 refine WO.v (R.move rfl) rfl ?_
 refine WO.v (R.iN rfl rfl (by omega)) rfl ?_
 refine WO.v (R.move rfl) rfl ?_
 refine WO.v (R.Dh rfl Tryz.underlying22) rfl ?_
 refine WO.v (R.gtr rfl rfl) rfl ?_
 refine WO.nil ?_
 refine WX.next ?_
 refine WC.cond rfl (fun _=>?_) (fun q=>absurd (by omega) (of_decide_eq_false q))
 refine WC.seq ?_
 refine WC.region ?_
 refine WO.v (R.move rfl) rfl ?_
 refine WO.v (R.move rfl) rfl ?_
 refine WO.v (R.jy rfl rfl Tryz.underlying22 b_ (dg (i:=0) (by omega)) (by omega)) rfl ?_
 refine WO.v (R.move rfl) rfl ?_
 refine WO.v (R.move rfl) rfl ?_
 refine WO.v (R.iN rfl rfl (by omega)) rfl ?_
 refine WO.v (R.move rfl) rfl ?_
 refine WO.v (R.HJ rfl rfl (by omega) (by omega)) rfl ?_
 refine WO.v (happ _ _ _ _ rfl rfl) rfl ?_
 refine WO.v (R.assign rfl) rfl ?_
 refine WO.nil ?_
 refine WX.next ?_
 refine WC.seq ?_
 refine WC.region ?_
 refine WO.v (R.move rfl) rfl ?_
 refine WO.v (R.move rfl) rfl ?_
 refine WO.v (R.bX rfl rfl Tryz.underlying22 b_ (dg (by omega)) (by omega)) rfl ?_
 refine WO.v (R.move rfl) rfl ?_
 refine WO.v (R.kv rfl rfl Tryz.underlying22 b_ hrow hn1 hv (by omega) h1v) rfl ?_
 refine WO.nil ?_
 refine WX.next ?_
 refine WC.seq ?_
 refine WC.nR gq [.ex [] (.slice (some ⟨b,0,none⟩) (n+1) G),.ex [] (.int .i64 ((i:Nat):Int)),.ex [] (.int .i64 ((1:Nat):Int)),.ex [1,2] (.int .i64 ((i+1:Nat):Int)),.ex [0,3] (.slice (some ⟨b,(i+1)*4,none⟩) (n+1 - (i+1)) (G - (i+1))),.ex [] (.slice (some ⟨g,0,none⟩) n c),.ex [] (.int .i64 ((i:Nat):Int)),.ex [5,6] (.slice (some ⟨g,i*4,none⟩) (n - i) (c - i))] 8 (by kernel_rfl) ⟨fun _ _ _ h _=>h,fun _ _ _ h _=>h,fun _ _ _ h _=>h,fun _ _ _ h _=>h,fun _ _ _ h _=>h,fun _ _ _ h _=>h,fun _ _ _ h _=>h,fun _ _ _ h _=>h,trivial⟩ ⟨?_,?_,?_,?_,?_,?_,?_,?_,trivial⟩ ?_
 ·rintro vs wd kd ⟨-⟩
  refine WO.bn (fr':=[(9,.slice (some ⟨b,0,none⟩) (n+1) G)]) ⟨⟨_,rfl,rfl⟩,trivial⟩ ?_
  refine WO.v (R.move rfl) rfl ?_
  refine WO.nil ?_
  exact WX.aI rfl rfl (Kp.refl _)
 ·rintro vs wd kd ⟨-⟩
  refine WO.bn (fr':=[(1,.int .i64 ((i:Nat):Int))]) ⟨⟨_,rfl,rfl⟩,trivial⟩ ?_
  refine WO.v (R.move rfl) rfl ?_
  refine WO.nil ?_
  exact WX.aI rfl rfl (Kp.refl _)
 ·rintro vs wd kd ⟨-⟩
  refine WO.bn (fr':=[(7,.int .i64 ((1:Nat):Int))]) ⟨⟨_,rfl,rfl⟩,trivial⟩ ?_
  refine WO.v (R.move rfl) rfl ?_
  refine WO.nil ?_
  exact WX.aI rfl rfl (Kp.refl _)
 ·rintro vs wd kd ⟨e1,e2,-⟩
  refine WO.bn (fr':=[(47,.int .i64 ((i:Nat):Int)),(48,.int .i64 ((1:Nat):Int))]) ⟨⟨_,rfl,e1⟩,⟨_,rfl,e2⟩,trivial⟩ ?_
  refine WO.v (R.iN rfl rfl (by omega)) rfl ?_
  refine WO.nil ?_
  exact WX.aI rfl rfl (Kp.refl _)
 ·rintro vs wd kd ⟨e0,e3,-⟩
  refine WO.bn (fr':=[(46,.slice (some ⟨b,0,none⟩) (n+1) G),(49,.int .i64 ((i+1:Nat):Int))]) ⟨⟨_,rfl,e0⟩,⟨_,rfl,e3⟩,trivial⟩ ?_
  refine WO.v (R.bX rfl rfl Tryz.underlying22 b_ (dg (by omega)) (by omega)) rfl ?_
  refine WO.nil ?_
  exact WX.aI rfl rfl (Kp.refl _)
 ·rintro vs wd kd ⟨-⟩
  refine WO.bn (fr':=[(0,.slice (some ⟨g,0,none⟩) n c)]) ⟨⟨_,rfl,rfl⟩,trivial⟩ ?_
  refine WO.v (R.move rfl) rfl ?_
  refine WO.nil ?_
  exact WX.aI rfl rfl (Kp.refl _)
 ·rintro vs wd kd ⟨-⟩
  refine WO.bn (fr':=[(1,.int .i64 ((i:Nat):Int))]) ⟨⟨_,rfl,rfl⟩,trivial⟩ ?_
  refine WO.v (R.move rfl) rfl ?_
  refine WO.nil ?_
  exact WX.aI rfl rfl (Kp.refl _)
 ·rintro vs wd kd ⟨e5,e6,-⟩
  refine WO.bn (fr':=[(51,.slice (some ⟨g,0,none⟩) n c),(52,.int .i64 ((i:Nat):Int))]) ⟨⟨_,rfl,e5⟩,⟨_,rfl,e6⟩,trivial⟩ ?_
  refine WO.v (R.bX rfl rfl Tryz.underlying22 b_ (dg (by omega)) (by omega)) rfl ?_
  refine WO.nil ?_
  exact WX.aI rfl rfl (Kp.refl _)
 rintro vsx w1 k1 ⟨-,-,-,-,e4,-,-,e7,-⟩
 replace k1:Kp [] (W1.setRow b (cur.take (i*4)++vs++cur.drop (i*4+vs.length)).toArray) w1:=k1
 refine WO.bn (fr':=[(50,.slice (some ⟨b,(i+1)*4,none⟩) (n+1 - (i+1)) (G - (i+1))),(53,.slice (some ⟨g,i*4,none⟩) (n - i) (c - i)),(9,.slice (some ⟨b,0,none⟩) (n+1) G)]) ⟨⟨_,rfl,e4⟩,⟨_,rfl,e7⟩,⟨_,rfl,rfl⟩,trivial⟩ ?_
 have hb2:w1.heap[b]? = some (.cells (List.toArray (cur.take (i*4)++vs++cur.drop (i*4+vs.length))) 44 (0,0)):=by rw [k1.block b (by simpa using aW hrow) (by simp)]; exact setRow_heap W1 b _ _ 44 _ hrow
 have hd2:CellsAt w1 ⟨g,i*4,none⟩ ds:=(hd.kp (Kp.setRow W1 b _) hgl (by simpa using hgb.symm)).kp k1 (by simpa using hgl) (by simp)
 refine WO.v (R.kv rfl rfl Tryz.underlying22 b_ hb2 hn2 hd2 (by simp only [List.length_append,List.length_take,List.length_drop]; omega) h1d) rfl ?_
 refine WO.nil ?_
 refine WX.next ?_
 refine WC.seq ?_
 refine WC.region ?_
 refine WO.v (R.move rfl) rfl ?_
 refine WO.v (R.assign rfl) rfl ?_
 refine WO.nil ?_
 refine WX.next ?_
 refine WC.ret ?_
 refine WX.gA ?_
 refine WX.sD rfl rfl ?_
 exact ⟨rfl,w1,k1,rfl⟩
set_option maxRecDepth 100000 in
set_option maxHeartbeats 1000000 in
theorem na {w:World} {g n i c vc:Nat} {ad:Addr} {cur vs ds:List Value} {curA:Array Value} {tA:TypeId} {fA:Nat × Nat} (hi:i<n) (hc:n+1<=c) (hcm:c<=maxLen)
  (hrow:w.heap[g]? = some (.cells cur.toArray 44 (0,0))) (hcur:(n+1)*4<=cur.length) (hv:CellsAt w ad vs) (hvb:w.heap[ad.block]? = some (.cells curA tA fA)) (hvb0:curA.size≠0) (hne:ad.block≠g) (hvl:vs.length=4) (hd:CellsAt w ⟨g,i*4,none⟩ ds) (hdl:ds.length=(n - i)*4)
  (h1v:∀ u ∈ vs,u.oneCell' = true) (h1d:∀ u ∈ ds,u.oneCell' = true) :
  gK Tryz.prog 36 [.slice (some ⟨g,0,none⟩) n c,.int .i64 (i:Int),.slice (some ad) 1 vc].toArray w fun v w'=>v = .slice (some ⟨g,0,none⟩) (n+1) c/\∃ w1,Kp [] w w1/\w' = (w1.setRow g (cur.take ((i+1)*4)++ds++cur.drop ((i+1)*4+ds.length)).toArray).setRow g ((cur.take ((i+1)*4)++ds++cur.drop ((i+1)*4+ds.length)).take (i*4)++vs++(cur.take ((i+1)*4)++ds++cur.drop ((i+1)*4+ds.length)).drop (i*4+vs.length)).toArray:=by
 have hcm:c<=9223372036854775807:=hcm
 have hn1:vs.length=Nat.min 1 (n+1 - i)*4:=by rw [show Nat.min 1 (n+1 - i)=1 from Nat.min_eq_left (by omega),Nat.one_mul]; exact hvl
 have hn2:ds.length=Nat.min (n+1 - i) (n+1 - (i+1))*4:=by rw [show Nat.min (n+1 - i) (n+1 - (i+1))=n+1 - (i+1) from Nat.min_eq_right (by omega),hdl]; congr 1; omega
 refine gK.enter Tryz.func36 rfl rfl rfl rfl ?_
 refine WC.seq ?_
 refine WC.region ?_
 refine WO.v (R.assign rfl) rfl ?_
 refine WO.nil ?_
 refine WX.next ?_
 refine WC.seq ?_
 refine WC.region ?_
 refine WO.v (R.move rfl) rfl ?_
 refine WO.v (R.move rfl) rfl ?_
 refine WO.v (R.bX rfl rfl Tryz.underlying22 b_ rfl (by omega)) rfl ?_
 refine WO.nil ?_
 refine WX.next ?_
 refine WC.seq ?_
 refine WC.region ?_
 refine WO.v (R.move rfl) rfl ?_
 refine WO.v (R.len rfl Tryz.underlying22) rfl ?_
 refine WO.v (R.assign rfl) rfl ?_
 refine WO.nil ?_
 refine WX.next ?_
 refine WC.seq ?_
 refine WC.seq ?_
 refine WC.region ?_
 refine WO.v (R.move rfl) rfl ?_
 refine WO.v (R.eql rfl rfl) rfl ?_
 refine WO.nil ?_
 refine WX.next ?_
 refine WC.cond rfl (fun q=>absurd (of_decide_eq_true q) (by omega)) (fun _=>?_)
 refine WC.skip ?_
 refine WX.next ?_
 refine WC.seq ?_
 refine WC.region ?_
 refine WO.v (R.move rfl) rfl ?_
 refine WO.v (R.len rfl Tryz.underlying22) rfl ?_
 refine WO.v (R.assign rfl) rfl ?_
 refine WO.nil ?_
 refine WX.next ?_
 refine WC.seq ?_
 refine WC.seq ?_
 refine WC.region ?_
 refine WO.v (R.move rfl) rfl ?_
 refine WO.v (R.move rfl) rfl ?_
 refine WO.v (R.eql rfl rfl) rfl ?_
 refine WO.nil ?_
 refine WX.next ?_
 refine WC.cond rfl (fun q=>absurd (of_decide_eq_true q) (by omega)) (fun _=>?_)
 refine WC.skip ?_
 refine WX.next ?_
 refine WC.seq ?_
 refine WC.seq ?_
 refine WC.region ?_
 refine WO.v (R.move rfl) rfl ?_
 refine WO.v (R.move rfl) rfl ?_
 refine WO.v (R.iN rfl rfl (by omega)) rfl ?_
 refine WO.v (R.move rfl) rfl ?_
 refine WO.v (R.Dh rfl Tryz.underlying22) rfl ?_
 refine WO.v (R.gtr rfl rfl) rfl ?_
 refine WO.nil ?_
 refine WX.next ?_
 refine WC.cond rfl (fun q=>absurd (of_decide_eq_true q) (by omega)) (fun _=>?_)
 refine WC.skip ?_
 refine WX.next ?_
 refine WC.seq ?_
 refine WC.region ?_
 refine WO.v (R.move rfl) rfl ?_
 refine WO.v (R.move rfl) rfl ?_
 refine WO.v (R.move rfl) rfl ?_
 refine WO.v (R.iN rfl rfl (by omega)) rfl ?_
 refine WO.v (R.jy rfl rfl Tryz.underlying22 b_ (dg (i:=0) (by omega)) (by omega)) rfl ?_
 refine WO.v (R.assign rfl) rfl ?_
 refine WO.nil ?_
 refine WX.next ?_
 refine WC.seq ?_
 refine WC.seq ?_
 refine WC.region ?_
 refine WO.v (R.move rfl) rfl ?_
 refine WO.v (R.move rfl) rfl ?_
 refine WO.v (R.move rfl) rfl ?_
 refine WO.v (R.move rfl) rfl ?_
 refine WO.v (R.iN rfl rfl (by omega)) rfl ?_
 refine WO.v (R.bX rfl rfl Tryz.underlying22 b_ (dg (by omega)) (by omega)) rfl ?_
 refine WO.v (R.Je (tS:=22) (tR:=4) Tryz.func87 rfl rfl (by kernel_rfl) (by kernel_rfl) Tryz.underlying22 b_ hne hvb hvb0 hrow rfl rfl) rfl ?_
 refine WO.v (R.not rfl) rfl ?_
 refine WO.nil ?_
 refine WX.next ?_
 refine WC.xf rfl ?_
 refine WC.seq ?_
 refine WC.nR gq [.ex [] (.slice (some ⟨g,0,none⟩) (n+1) c),.ex [] (.int .i64 ((i:Nat):Int)),.ex [] (.int .i64 ((1:Nat):Int)),.ex [1,2] (.int .i64 ((i+1:Nat):Int)),.ex [0,3] (.slice (some ⟨g,(i+1)*4,none⟩) (n+1 - (i+1)) (c - (i+1))),.ex [] (.slice (some ⟨g,0,none⟩) (n+1) c),.ex [] (.int .i64 ((i:Nat):Int)),.ex [5,6] (.slice (some ⟨g,i*4,none⟩) (n+1 - i) (c - i))] 8 (by kernel_rfl) ⟨fun _ _ _ h _=>h,fun _ _ _ h _=>h,fun _ _ _ h _=>h,fun _ _ _ h _=>h,fun _ _ _ h _=>h,fun _ _ _ h _=>h,fun _ _ _ h _=>h,fun _ _ _ h _=>h,trivial⟩ ⟨?_,?_,?_,?_,?_,?_,?_,?_,trivial⟩ ?_
 ·rintro vs wd kd ⟨-⟩
  refine WO.bn (fr':=[(0,.slice (some ⟨g,0,none⟩) (n+1) c)]) ⟨⟨_,rfl,rfl⟩,trivial⟩ ?_
  refine WO.v (R.move rfl) rfl ?_
  refine WO.nil ?_
  exact WX.aI rfl rfl (Kp.refl _)
 ·rintro vs wd kd ⟨-⟩
  refine WO.bn (fr':=[(1,.int .i64 ((i:Nat):Int))]) ⟨⟨_,rfl,rfl⟩,trivial⟩ ?_
  refine WO.v (R.move rfl) rfl ?_
  refine WO.nil ?_
  exact WX.aI rfl rfl (Kp.refl _)
 ·rintro vs wd kd ⟨-⟩
  refine WO.bn (fr':=[(7,.int .i64 ((1:Nat):Int))]) ⟨⟨_,rfl,rfl⟩,trivial⟩ ?_
  refine WO.v (R.move rfl) rfl ?_
  refine WO.nil ?_
  exact WX.aI rfl rfl (Kp.refl _)
 ·rintro vs wd kd ⟨e1,e2,-⟩
  refine WO.bn (fr':=[(70,.int .i64 ((i:Nat):Int)),(71,.int .i64 ((1:Nat):Int))]) ⟨⟨_,rfl,e1⟩,⟨_,rfl,e2⟩,trivial⟩ ?_
  refine WO.v (R.iN rfl rfl (by omega)) rfl ?_
  refine WO.nil ?_
  exact WX.aI rfl rfl (Kp.refl _)
 ·rintro vs wd kd ⟨e0,e3,-⟩
  refine WO.bn (fr':=[(69,.slice (some ⟨g,0,none⟩) (n+1) c),(72,.int .i64 ((i+1:Nat):Int))]) ⟨⟨_,rfl,e0⟩,⟨_,rfl,e3⟩,trivial⟩ ?_
  refine WO.v (R.bX rfl rfl Tryz.underlying22 b_ (dg (by omega)) (by omega)) rfl ?_
  refine WO.nil ?_
  exact WX.aI rfl rfl (Kp.refl _)
 ·rintro vs wd kd ⟨-⟩
  refine WO.bn (fr':=[(0,.slice (some ⟨g,0,none⟩) (n+1) c)]) ⟨⟨_,rfl,rfl⟩,trivial⟩ ?_
  refine WO.v (R.move rfl) rfl ?_
  refine WO.nil ?_
  exact WX.aI rfl rfl (Kp.refl _)
 ·rintro vs wd kd ⟨-⟩
  refine WO.bn (fr':=[(1,.int .i64 ((i:Nat):Int))]) ⟨⟨_,rfl,rfl⟩,trivial⟩ ?_
  refine WO.v (R.move rfl) rfl ?_
  refine WO.nil ?_
  exact WX.aI rfl rfl (Kp.refl _)
 ·rintro vs wd kd ⟨e5,e6,-⟩
  refine WO.bn (fr':=[(74,.slice (some ⟨g,0,none⟩) (n+1) c),(75,.int .i64 ((i:Nat):Int))]) ⟨⟨_,rfl,e5⟩,⟨_,rfl,e6⟩,trivial⟩ ?_
  refine WO.v (R.bX rfl rfl Tryz.underlying22 b_ (dg (by omega)) (by omega)) rfl ?_
  refine WO.nil ?_
  exact WX.aI rfl rfl (Kp.refl _)
 rintro vsx w1 k1 ⟨-,-,-,-,e4,-,-,e7,-⟩
 replace k1:Kp [] w w1:=k1
 refine WO.bn (fr':=[(73,.slice (some ⟨g,(i+1)*4,none⟩) (n+1 - (i+1)) (c - (i+1))),(76,.slice (some ⟨g,i*4,none⟩) (n+1 - i) (c - i)),(0,.slice (some ⟨g,0,none⟩) (n+1) c),(1,.int .i64 ((i:Nat):Int)),(2,.slice (some ad) 1 vc)]) ⟨⟨_,rfl,e4⟩,⟨_,rfl,e7⟩,⟨_,rfl,rfl⟩,⟨_,rfl,rfl⟩,⟨_,rfl,rfl⟩,trivial⟩ ?_
 have hg1:w1.heap[g]? = some (.cells (List.toArray cur) 44 (0,0)):=by rw [k1.block g (aW hrow) (by simp)]; exact hrow
 refine WO.v (R.kv rfl rfl Tryz.underlying22 b_ hg1 hn2 (hd.kp k1 (aW hrow) (by simp)) (by omega) h1d) rfl ?_
 refine WO.nil ?_
 refine WX.next ?_
 have hg2:(w1.setRow g (cur.take ((i+1)*4)++ds++cur.drop ((i+1)*4+ds.length)).toArray).heap[g]? = some (.cells (List.toArray (cur.take ((i+1)*4)++ds++cur.drop ((i+1)*4+ds.length))) 44 (0,0)):=setRow_heap w1 g _ _ 44 _ hg1
 have hv2:CellsAt (w1.setRow g (cur.take ((i+1)*4)++ds++cur.drop ((i+1)*4+ds.length)).toArray) ad vs:=(hv.kp k1 (aW hvb) (by simp)).kp (Kp.setRow w1 g _) (Nat.lt_of_lt_of_le (aW hvb) k1.size) (by simpa using fun h=>hne h.symm)
 refine WC.seq ?_
 refine WC.region ?_
 refine WO.v (R.move rfl) rfl ?_
 refine WO.v (R.move rfl) rfl ?_
 refine WO.v (R.bX rfl rfl Tryz.underlying22 b_ (dg (by omega)) (by omega)) rfl ?_
 refine WO.v (R.move rfl) rfl ?_
 refine WO.v (R.kv rfl rfl Tryz.underlying22 b_ hg2 hn1 hv2 (by simp only [List.length_append,List.length_take,List.length_drop]; omega) h1v) rfl ?_
 refine WO.nil ?_
 refine WX.next ?_
 refine WC.seq ?_
 refine WC.region ?_
 refine WO.v (R.move rfl) rfl ?_
 refine WO.v (R.assign rfl) rfl ?_
 refine WO.nil ?_
 refine WX.next ?_
 refine WC.ret ?_
 refine WX.gA ?_
 refine WX.sD rfl rfl ?_
 exact ⟨rfl,w1,k1,rfl⟩
theorem qM {G:Gl} {ρ:List RE} {H:AH} {w:World} (hs:G.shp=au aF) (hR:Rep G ρ H w) {l m:List (den (.nm .sess))} (hH:getO H 0 = .row 44 (.nm .sess) l) (hl:l.length<1048576) {i:Nat} (hi:i<=l.length) {v0:Value} (h0:Rd (cx G ρ w) ρ (.own 0) v0)
  {ad:Addr} {k:Nat} {cys:List Value} {bAV:AV} (hm:m.length=1) (hb:Rd (cx G ρ w) ρ bAV (.slice (some ad) 1 k)) (hbv:(bAV.vw H).fh (.nm .sess)=some m) (hv:CellsAt w ad cys) (hvl:cys.length=4) (h1v:∀ u ∈ cys,u.oneCell' = true) (hp:Pds (cx G ρ w) (m.flatMap (cellsOf (.nm .sess))) cys)
  (hne:∀ g c n z,ρ[0]? = some (.row g c n z)->ad.block≠g) {curA:Array Value} {tA:TypeId} {fA:Nat × Nat} (hvb:w.heap[ad.block]? = some (.cells curA tA fA)) (hvb0:curA.size≠0) :
  gK Tryz.prog 36 [v0,.int .i64 (i:Int),.slice (some ad) 1 k].toArray w fun v w'=>∃ ρ',Stp (wS 0) ρ w ρ' w' /\ Rep G ρ' ((ey (AV.kill 0) H).set 0 (.row 44 (.nm .sess) (l.take i++m++l.drop i))) w' /\ Rd (cx G ρ' w') ρ' (.own 0) v:=by
 have hT:bg Tryz.prog G.shp aF:=hs ▸ fR
 obtain ⟨hshp,hlen⟩:=cK hR hH
 have hl64:l.length<=9223372036854775807:=by omega
 have hin:((l.length:Nat):Int)<=9223372036854775807:=by omega
 by_cases hie:i=l.length
 ·subst hie
  have hc:∃ A c,v0 = .slice A l.length c:=by
   rcases h0 with ⟨g,cap,len,z,h1,rfl⟩ | ⟨h1,a,rfl⟩
   ·rcases bp hR hH with ⟨h2,_⟩ | ⟨g',cap',cells,sp,h2,_⟩
    ·rw [h1] at h2; cases h2
    ·rw [h1] at h2; cases h2; exact ⟨_,_,rfl⟩
   ·rcases bp hR hH with ⟨_,h2⟩ | ⟨g',cap',cells,sp,h2,_⟩
    ·subst h2; exact ⟨_,_,rfl⟩
    ·rw [h1] at h2; cases h2
  obtain ⟨A,c,rfl⟩:=hc
  refine qK fun F x y ty hx hy=>?_
  have happ:fH aF (wS 0) ([]:AFr) H 22 (.own 0) bAV=some ⟨one (.own 0),[],(ey (AV.kill 0) H).set 0 (.row 44 (.nm .sess) (l++m)),[(l.length+m.length)*(Sh.nm NT.sess).bytes<=140737488355328],[]⟩:=by
   unfold fH
   rw [show bm aF 22=some ⟨.sl 44 (some (.nm .sess)),1,[.em true]⟩ from by kernel_rfl]
   simp only [hbv,hH]
   rfl
  obtain ⟨v,w',h1,ρ',h2,h3,_,h5,_⟩:=fE (P:=Tryz.prog) (n:=95) (F:=[]) (ty:=ty) (fr:=[]) (x:=.const (.slice A l.length c)) (y:=.const (.slice (some ad) 1 k)) hT hR .nil happ (by
   intro p hp
   rw [List.mem_singleton] at hp; subst hp
   show (l.length+m.length)*32<=_
   omega) h0 hb rfl rfl
  refine ⟨v,w',R.uV h1 hx hy,ρ',h2,?_,h5⟩
  rw [List.take_length,List.drop_length,List.append_nil]
  exact h3
 ·have hlt:i<l.length:=by omega
  rcases bp hR hH with ⟨_,h2⟩ | ⟨g,cap,cells,sp,hρ,hg,hpd,hsz,hcap,hmax⟩
  ·subst h2; simp at hlt
  obtain ⟨hnb,hil,hiH⟩:=jq hR hH
  have hv0:v0 = .slice (some ⟨g,0,none⟩) l.length cap:=by
   rcases h0 with ⟨g',cap',len,z,h1,rfl⟩ | ⟨h1,a,rfl⟩
   ·rw [hρ] at h1; cases h1; rfl
   ·rw [hρ] at h1; cases h1
  subst hv0
  have hz:(Sh.nm NT.sess).size=4:=rfl
  have hby:(Sh.nm NT.sess).bytes=32:=rfl
  have hcl:cells.length=l.length*4:=by rw [<- hpd.length,bE,hz]
  rw [hz,List.length_append] at hsz
  have hone:∀ u ∈ cells.drop (i*4),u.oneCell' = true:=fun u hu=>hpd.xS u (List.mem_of_mem_drop hu)
  have hd:CellsAt w ⟨g,i*4,none⟩ (cells.drop (i*4)):=by
   have:=(bT hg).shift (i*4)
   rwa [add_lit,Nat.zero_add] at this
  have hdl:(cells.drop (i*4)).length=(l.length - i)*4:=by rw [List.length_drop,hcl]; omega
  have hgl:=aW hg
  have hzl:(l.take i++m++l.drop i).length=l.length+1:=by
   rw [List.length_append,List.length_append,List.length_take,List.length_drop,hm]; omega
  have hnew:∀ {c:Cx},(cx G ρ w).le c->Pds c ((l.take i++m++l.drop i).flatMap (cellsOf (.nm .sess))) (cells.take (i*4)++cys++cells.drop (i*4)):=fun {c} hle=>by
   rw [List.flatMap_append,List.flatMap_append]
   exact (((bA hpd i).append hp).append (bJ hpd i)).carry hle
  have hnl:(cells.take (i*4)++cys++cells.drop (i*4)).length=(l.length+1)*4:=by
   rw [List.length_append,List.length_append,List.length_take,List.length_drop,hcl,hvl]; omega
  have hbig:(l.take i++m++l.drop i).length*(Sh.nm NT.sess).bytes<=140737488355328:=by rw [hzl,hby]; omega
  -- what is shown of any way
  have fin:∀ (S:List Nat) (g2 cap2:Nat) (sp2:List Value) (w':World),Kp S w w' -> (∀ b ∈ S,b=g)->(g2=g\/w.heap.size<=g2)->w'.heap[g2]? = some (.cells (List.toArray (cells.take (i*4)++cys++cells.drop (i*4)++sp2)) 44 (0,0))->(l.length+1)*4+sp2.length=cap2*4->l.length+1<=cap2->cap2<=maxLen ->
    ∃ ρ',Stp (wS 0) ρ w ρ' w' /\ Rep G ρ' ((ey (AV.kill 0) H).set 0 (.row 44 (.nm .sess) (l.take i++m++l.drop i))) w' /\ Rd (cx G ρ' w') ρ' (.own 0) (.slice (some ⟨g2,0,none⟩) (l.length+1) cap2):=by
   intro S g2 cap2 sp2 w' hk hS hg2 hh hlen2 hle2 hmax2
   obtain ⟨k1,k2,_⟩:=jf (ro:=wS 0) (s':=.nm .sess) (e':=44) (zs:=l.take i++m++l.drop i) hR hH ⟨rfl,rfl⟩ hk (fun b hb=>⟨_,hρ,by rw [hS b hb]; rfl⟩) (r':=.row g2 cap2 (l.take i++m++l.drop i).length (Sh.nm NT.sess).size) (fun b hb=>by
    cases hb
    rcases hg2 with rfl | hg2
    ·exact .inl ⟨_,hρ,rfl⟩
    ·exact .inr ⟨hg2,aW hh⟩) (fun hle=>⟨hshp,hbig,.inr ⟨g2,cap2,_,sp2,rfl,hh,hnew hle,by rw [List.length_append,hnl,hz]; exact hlen2,by rw [hzl]; exact hle2,hmax2⟩⟩)
   exact ⟨_,k1,k2,.inl ⟨g2,cap2,_,_,List.getElem?_set_self hil,by rw [hzl]⟩⟩
  have eo:(i+1)*4=i*4+4:=by omega
  by_cases hroom:l.length+1<=cap
  ·refine (na hlt hroom hmax hg (by rw [List.length_append]; omega) hv hvb hvb0 (hne _ _ _ _ hρ) hvl hd hdl h1v hone).mono fun v w' ⟨e1,w1,k1,e2⟩=>?_
   subst e1; subst e2
   rw [eo,DA (by omega) hvl]
   have hk:Kp [g] w ((w1.setRow g ((cells++sp).take (i*4+4)++cells.drop (i*4)++(cells++sp).drop (i*4+4+(cells.drop (i*4)).length)).toArray).setRow g (cells.take (i*4)++cys++cells.drop (i*4)++sp.drop 4).toArray):=((k1.sub (by simp)).step (Kp.setRow w1 g _) (by simp)).step (Kp.setRow _ g _) (by simp)
   have hg1:w1.heap[g]? = some (.cells (List.toArray (cells++sp)) 44 (0,0)):=by rw [k1.block g hgl (by simp)]; exact hg
   exact fin [g] g cap (sp.drop 4) _ hk (by simp) (.inl rfl) (setRow_heap _ g _ _ 44 _ (setRow_heap w1 g _ _ 44 _ hg1)) (by rw [List.length_drop]; omega) hroom hmax
  ·obtain ⟨ti,hi0,hz0,hz1,hz2⟩:=info_parts zL
   have eik:i+(l.length+1 - i)=l.length+1:=by omega
   have hge:=grownCap_ge w (l.length+1) cap 44
   have hgm:=grownCap_le_maxLen w (l.length+1) cap 44 (by simp [maxLen]; omega)
   have hold:(Builtin.firstCells ti.size i (.slice (some ⟨g,0*4,none⟩) i cap)).run Tryz.prog w.drew = .ok (cells.take (i*4)).toArray w.drew:=by
    have h:=run_loadCells_list (P:=Tryz.prog) w.drew ⟨g,0*4,none⟩ (cells.take (i*4)) (by rw [Nat.zero_mul]; exact (bT hg).take _)
    rw [List.length_take,Nat.min_eq_left (by omega)] at h
    rw [hz1]; exact h
   have happ:∀ (F:Fr) (x y:Operand) (ty:TypeId),ev F x=some (.slice (some ⟨g,0*4,none⟩) i cap)->ev F y=some (.int .i64 ((l.length+1 - i:Nat):Int))->aL Tryz.prog 95 F w (.call { callee:=.builtin .append,args:=#[x,y],argTypes:=#[22,3] }) ty (.slice (some ⟨w.heap.size,0,none⟩) (l.length+1) (grownCap w (l.length+1) cap 44)) (w.drew.alloc (.cells (List.toArray (cells.take (i*4)++((Builtin.zeroCells (Value.agg #[.int .i64 0,.int .i64 0,.int .i64 0,.int .i64 0]).cells (l.length+1 - i)).toList++(Builtin.zeroCells (Value.agg #[.int .i64 0,.int .i64 0,.int .i64 0,.int .i64 0]).cells (grownCap w (l.length+1) cap 44 - (l.length+1))).toList))) 44)):=fun F x y ty hx hy=>by
    have h:=R.Hg (P:=Tryz.prog) (n:=95) (ty:=ty) hx hy Tryz.underlying22 Tryz.underlying3 hi0 hz0 hold (by omega) (by rw [hz1]; decide) (by omega) (by omega) (by rw [hz2]; omega) (by rw [hz2,eik]; exact growslice_fits (by omega) (by omega))
    rw [eik] at h
    have e:∀ (a:List Value) (b c:Array Value),a.toArray++b++c=(a++(b.toList++c.toList)).toArray:=fun a b c=>by apply Array.ext'; simp
    rw [e] at h
    exact h
   have hcurl:(cells.take (i*4)++((Builtin.zeroCells (Value.agg #[.int .i64 0,.int .i64 0,.int .i64 0,.int .i64 0]).cells (l.length+1 - i)).toList++(Builtin.zeroCells (Value.agg #[.int .i64 0,.int .i64 0,.int .i64 0,.int .i64 0]).cells (grownCap w (l.length+1) cap 44 - (l.length+1))).toList)).length=grownCap w (l.length+1) cap 44*4:=by
    rw [List.length_append,List.length_append,List.length_take,lx,lx]
    show min _ _+((l.length+1 - i)*4+(grownCap w (l.length+1) cap 44 - (l.length+1))*4)=_
    omega
   have htk:(cells.take (i*4)++((Builtin.zeroCells (Value.agg #[.int .i64 0,.int .i64 0,.int .i64 0,.int .i64 0]).cells (l.length+1 - i)).toList++(Builtin.zeroCells (Value.agg #[.int .i64 0,.int .i64 0,.int .i64 0,.int .i64 0]).cells (grownCap w (l.length+1) cap 44 - (l.length+1))).toList)).take (i*4)=cells.take (i*4):=List.take_left' (by rw [List.length_take]; omega)
   generalize grownCap w (l.length+1) cap 44=GC at *
   generalize cells.take (i*4)++((Builtin.zeroCells (Value.agg #[.int .i64 0,.int .i64 0,.int .i64 0,.int .i64 0]).cells (l.length+1 - i)).toList++(Builtin.zeroCells (Value.agg #[.int .i64 0,.int .i64 0,.int .i64 0,.int .i64 0]).cells (GC - (l.length+1))).toList)=cur at *
   have hK1:Kp [] w (w.drew.alloc (.cells (List.toArray cur) 44)):=((Kp.refl w).drew).step (Kp.alloc w.drew _) (by simp)
   have hrow:(w.drew.alloc (.cells (List.toArray cur) 44)).heap[w.heap.size]? = some (.cells (List.toArray cur) 44 (0,0)):=heap_alloc_new w.drew _
   generalize w.drew.alloc (.cells (List.toArray cur) 44)=W1 at *
   refine (oM hlt hcap (by omega) hmax hge hgm happ hrow (by omega) (hv.kp hK1 (aW hvb) (by simp)) hvl (hd.kp hK1 hgl (by simp)) (by omega) (Nat.lt_of_lt_of_le hgl hK1.size) hdl h1v hone).mono fun v w' ⟨e1,w1,k1,e2⟩=>?_
   subst e1; subst e2
   rw [eo,Dx (cells:=cells) (by omega) hvl htk]
   have hs1:∀ b ∈ [w.heap.size],b ∈ ([]:List Nat)\/w.heap.size<=b:=fun b hb=>.inr (by rw [List.mem_singleton] at hb; omega)
   have hk:Kp [] w (w1.setRow w.heap.size (cells.take (i*4)++cys++cells.drop (i*4)++cur.drop (i*4+4+(cells.drop (i*4)).length)).toArray):=((hK1.step (Kp.setRow W1 w.heap.size _) hs1).step k1 (by simp)).step (Kp.setRow w1 w.heap.size _) hs1
   have hg1:=(k1.block w.heap.size (by simpa using aW hrow) (by simp)).trans (setRow_heap W1 w.heap.size _ (cur.take (i*4)++cys++cur.drop (i*4+cys.length)).toArray 44 _ hrow)
   exact fin [] w.heap.size GC _ _ hk (by simp) (.inr (Nat.le_refl _)) (setRow_heap w1 w.heap.size _ _ 44 _ hg1) (by rw [List.length_drop]; omega) hge hgm
theorem oJ (i:Int) (l m:List (den (.nm .sess))) (h:0<=i/\i<=(l.length:Int)) (hl:l.length<1048576) (hm:m.length=1):Sat Tryz.prog (au aF) 36 [.c (.own 0),.c (.int i),.c (.own 1)] [.row 44 (.nm .sess) l,.row 44 (.nm .sess) m] ⟨[0<=i/\i<=(l.length:Int),l.length<1048576,m.length=1],[.c (.own 0)],some [.row 44 (.nm .sess) (l.take i.toNat++m++l.drop i.toNat),.row 44 (.nm .sess) m],false⟩:=by
 refine ⟨⟨_,Tryz.func36,by decide,rfl⟩,fun G ρ w vs hs hR hvs=>?_⟩
 obtain ⟨i,rfl⟩:=Int.eq_ofNat_of_zero_le h.1
 cases hvs with | cons h0 hvs=>
 cases hvs with | cons h1 hvs=>
 cases hvs with | cons h2 hvs=>
 cases hvs
 have h1:Pd (cx G ρ w) (.int (i:Int)) _:=h1
 cases h1
 have h0:Rd (cx G ρ w) ρ (.own 0) _:=h0
 have h2:Rd (cx G ρ w) ρ (.own 1) _:=h2
 have hH:getO [AO.row 44 (.nm .sess) l,.row 44 (.nm .sess) m] 0 = .row 44 (.nm .sess) l:=rfl
 have hbv:(AV.vw [AO.row 44 (.nm .sess) l,.row 44 (.nm .sess) m] (.own 1)).fh (.nm .sess)=some m:=by simp [AV.vw,AV.fh,getO]
 obtain ⟨A,k,cys,rfl,s1,s2,s3,s4⟩:=k_ hR hbv h2
 rw [hm] at h2 s1 s3
 rw [hm]
 obtain ⟨ad,rfl,s5⟩:∃ ad,A=some ad/\CellsAt w ad cys:=s3.resolve_left (by decide)
 have hz:(Sh.nm NT.sess).size=4:=rfl
 rw [hz] at s1
 obtain ⟨u,hu⟩:∃ u,cys[0]? = some u:=⟨_,List.getElem?_eq_getElem (by omega)⟩
 obtain ⟨cur,t,f,hc,hc0⟩:=nO (s5 0 u hu)
 have hne:∀ g c n z,ρ[0]? = some (.row g c n z)->ad.block≠g:=fun g c n z hg e=>by
  rcases h2 with ⟨g',cap',len,z',h3,h4⟩ | ⟨h3,a,h4⟩
  ·cases h4
   have:=hR.inj 0 1 _ _ g hg h3 rfl (by rw [<- e]; rfl)
   omega
  ·cases h4
 rw [ff] at hc
 refine (qM hs hR hH hl (by omega) h0 hm h2 hbv s5 s1 s2 s4 hne hc hc0).mono fun v w' ⟨ρ',k1,k2,k3⟩=>?_
 exact ⟨[v],rfl,ρ',k2,k1.ext,k1.bx,.cons k3 .nil,fun hb=>by cases hb⟩
theorem cf:(Tryz.prog.info? 77).map (·.size)=some 2:=by kernel_rfl
theorem t_:(Tryz.prog.info? 77).map (fun i=>(i.zero,i.size,i.bytes))=some (some (.agg #[.int .i64 0,.int .i64 0]),2,16):=by kernel_rfl
set_option maxRecDepth 100000 in
set_option maxHeartbeats 1000000 in
theorem sV {w:World} {n c vc:Nat} {A:Option Addr} {B:Option Addr} {φ:Value->World->Prop} (happ:∀ (F:Fr) (x y:Operand) (ty:TypeId),ev F x=some (.slice A n c)->ev F y=some (.slice B 1 vc)->∃ v2 w2,aL Tryz.prog 95 F w (.call { callee:=.builtin .append,args:=#[x,y],argTypes:=#[23,23] }) ty v2 w2/\φ v2 w2) :
  gK Tryz.prog 92 [.slice A n c,.int .i64 (n:Int),.slice B 1 vc].toArray w φ:=by
 refine gK.enter Tryz.func92 rfl rfl rfl rfl ?_
 refine WC.seq ?_
 refine WC.region ?_
 refine WO.v (R.assign rfl) rfl ?_
 refine WO.nil ?_
 refine WX.next ?_
 refine WC.seq ?_
 refine WC.region ?_
 refine WO.v (R.move rfl) rfl ?_
 refine WO.v (R.move rfl) rfl ?_
 refine WO.v (R.bX rfl rfl Tryz.underlying23 cf rfl (by omega)) rfl ?_
 refine WO.nil ?_
 refine WX.next ?_
 refine WC.seq ?_
 refine WC.region ?_
 refine WO.v (R.move rfl) rfl ?_
 refine WO.v (R.len rfl Tryz.underlying23) rfl ?_
 refine WO.v (R.assign rfl) rfl ?_
 refine WO.nil ?_
 refine WX.next ?_
 refine WC.seq ?_
 refine WC.seq ?_
 refine WC.region ?_
 refine WO.v (R.move rfl) rfl ?_
 refine WO.v (R.eql rfl rfl) rfl ?_
 refine WO.nil ?_
 refine WX.next ?_
 refine WC.cond rfl (fun q=>absurd (of_decide_eq_true q) (by omega)) (fun _=>?_)
 refine WC.skip ?_
 refine WX.next ?_
 refine WC.seq ?_
 refine WC.region ?_
 refine WO.v (R.move rfl) rfl ?_
 refine WO.v (R.len rfl Tryz.underlying23) rfl ?_
 refine WO.v (R.assign rfl) rfl ?_
 refine WO.nil ?_
 refine WX.next ?_
 refine WC.seq ?_
 refine WC.seq ?_
 refine WC.region ?_
 refine WO.v (R.move rfl) rfl ?_
 refine WO.v (R.move rfl) rfl ?_
 refine WO.v (R.eql rfl rfl) rfl ?_
 refine WO.nil ?_
 refine WX.next ?_
 refine WC.cond rfl (fun _=>?_) (fun q=>absurd rfl (of_decide_eq_false q))
 refine WC.seq ?_
 refine WC.region ?_
 refine WO.v (R.move rfl) rfl ?_
 refine WO.v (R.move rfl) rfl ?_
 refine WO.ve (happ _ _ _ _ rfl rfl) rfl fun v2 w2 hv2=>?_
 refine WO.v (R.assign rfl) rfl ?_
 refine WO.nil ?_
 refine WX.next ?_
 refine WC.ret ?_
 refine WX.gA ?_
 refine WX.sD rfl rfl ?_
 exact hv2
set_option maxRecDepth 100000 in
set_option maxHeartbeats 1000000 in
theorem rN {w W1:World} {g b n i c vc G:Nat} {ad:Addr} {cur vs ds:List Value} (hi:i<n) (hnc:n<=c) (hc:c<n+1) (hcm:c<=maxLen) (hG:n+1<=G) (hGm:G<=maxLen)
  (happ:∀ (F:Fr) (x y:Operand) (ty:TypeId),ev F x=some (.slice (some ⟨g,0*2,none⟩) i c)->ev F y=some (.int .i64 ((n+1 - i:Nat):Int))->aL Tryz.prog 95 F w (.call { callee:=.builtin .append,args:=#[x,y],argTypes:=#[23,3] }) ty (.slice (some ⟨b,0,none⟩) (n+1) G) W1)
  (hrow:W1.heap[b]? = some (.cells cur.toArray 77 (0,0))) (hcur:(n+1)*2<=cur.length) (hv:CellsAt W1 ad vs) (hvl:vs.length=2) (hd:CellsAt W1 ⟨g,i*2,none⟩ ds) (hgb:g≠b) (hgl:g<W1.heap.size) (hdl:ds.length=(n - i)*2)
  (h1v:∀ u ∈ vs,u.oneCell' = true) (h1d:∀ u ∈ ds,u.oneCell' = true) :
  gK Tryz.prog 92 [.slice (some ⟨g,0,none⟩) n c,.int .i64 (i:Int),.slice (some ad) 1 vc].toArray w fun v w'=>v = .slice (some ⟨b,0,none⟩) (n+1) G/\∃ w1,Kp [] (W1.setRow b (cur.take (i*2)++vs++cur.drop (i*2+vs.length)).toArray) w1/\w' = w1.setRow b ((cur.take (i*2)++vs++cur.drop (i*2+vs.length)).take ((i+1)*2)++ds++(cur.take (i*2)++vs++cur.drop (i*2+vs.length)).drop ((i+1)*2+ds.length)).toArray:=by
 have hGm:G<=9223372036854775807:=hGm
 have hcm:c<=9223372036854775807:=hcm
 have hn1:vs.length=Nat.min 1 (n+1 - i)*2:=by rw [show Nat.min 1 (n+1 - i)=1 from Nat.min_eq_left (by omega),Nat.one_mul]; exact hvl
 have hn2:ds.length=Nat.min (n - i) (n+1 - (i+1))*2:=by rw [show Nat.min (n - i) (n+1 - (i+1))=n - i from Nat.min_eq_left (by omega)]; exact hdl
 refine gK.enter Tryz.func92 rfl rfl rfl rfl ?_
 refine WC.seq ?_
 refine WC.region ?_
 refine WO.v (R.assign rfl) rfl ?_
 refine WO.nil ?_
 refine WX.next ?_
 refine WC.seq ?_
 refine WC.region ?_
 refine WO.v (R.move rfl) rfl ?_
 refine WO.v (R.move rfl) rfl ?_
 refine WO.v (R.bX rfl rfl Tryz.underlying23 cf rfl (by omega)) rfl ?_
 refine WO.nil ?_
 refine WX.next ?_
 refine WC.seq ?_
 refine WC.region ?_
 refine WO.v (R.move rfl) rfl ?_
 refine WO.v (R.len rfl Tryz.underlying23) rfl ?_
 refine WO.v (R.assign rfl) rfl ?_
 refine WO.nil ?_
 refine WX.next ?_
 refine WC.seq ?_
 refine WC.seq ?_
 refine WC.region ?_
 refine WO.v (R.move rfl) rfl ?_
 refine WO.v (R.eql rfl rfl) rfl ?_
 refine WO.nil ?_
 refine WX.next ?_
 refine WC.cond rfl (fun q=>absurd (of_decide_eq_true q) (by omega)) (fun _=>?_)
 refine WC.skip ?_
 refine WX.next ?_
 refine WC.seq ?_
 refine WC.region ?_
 refine WO.v (R.move rfl) rfl ?_
 refine WO.v (R.len rfl Tryz.underlying23) rfl ?_
 refine WO.v (R.assign rfl) rfl ?_
 refine WO.nil ?_
 refine WX.next ?_
 refine WC.seq ?_
 refine WC.seq ?_
 refine WC.region ?_
 refine WO.v (R.move rfl) rfl ?_
 refine WO.v (R.move rfl) rfl ?_
 refine WO.v (R.eql rfl rfl) rfl ?_
 refine WO.nil ?_
 refine WX.next ?_
 refine WC.cond rfl (fun q=>absurd (of_decide_eq_true q) (by omega)) (fun _=>?_)
 refine WC.skip ?_
 refine WX.next ?_
 refine WC.seq ?_
 refine WC.seq ?_
 refine WC.region ?_
 refine WO.v (R.move rfl) rfl ?_
 refine WO.v (R.move rfl) rfl ?_
 refine WO.v (R.iN rfl rfl (by omega)) rfl ?_
 refine WO.v (R.move rfl) rfl ?_
 refine WO.v (R.Dh rfl Tryz.underlying23) rfl ?_
 refine WO.v (R.gtr rfl rfl) rfl ?_
 refine WO.nil ?_
 refine WX.next ?_
 refine WC.cond rfl (fun _=>?_) (fun q=>absurd (by omega) (of_decide_eq_false q))
 refine WC.seq ?_
 refine WC.region ?_
 refine WO.v (R.move rfl) rfl ?_
 refine WO.v (R.move rfl) rfl ?_
 refine WO.v (R.jy rfl rfl Tryz.underlying23 cf (dg (i:=0) (by omega)) (by omega)) rfl ?_
 refine WO.v (R.move rfl) rfl ?_
 refine WO.v (R.move rfl) rfl ?_
 refine WO.v (R.iN rfl rfl (by omega)) rfl ?_
 refine WO.v (R.move rfl) rfl ?_
 refine WO.v (R.HJ rfl rfl (by omega) (by omega)) rfl ?_
 refine WO.v (happ _ _ _ _ rfl rfl) rfl ?_
 refine WO.v (R.assign rfl) rfl ?_
 refine WO.nil ?_
 refine WX.next ?_
 refine WC.seq ?_
 refine WC.region ?_
 refine WO.v (R.move rfl) rfl ?_
 refine WO.v (R.move rfl) rfl ?_
 refine WO.v (R.bX rfl rfl Tryz.underlying23 cf (dg (by omega)) (by omega)) rfl ?_
 refine WO.v (R.move rfl) rfl ?_
 refine WO.v (R.kv rfl rfl Tryz.underlying23 cf hrow hn1 hv (by omega) h1v) rfl ?_
 refine WO.nil ?_
 refine WX.next ?_
 refine WC.seq ?_
 refine WC.nR gq [.ex [] (.slice (some ⟨b,0,none⟩) (n+1) G),.ex [] (.int .i64 ((i:Nat):Int)),.ex [] (.int .i64 ((1:Nat):Int)),.ex [1,2] (.int .i64 ((i+1:Nat):Int)),.ex [0,3] (.slice (some ⟨b,(i+1)*2,none⟩) (n+1 - (i+1)) (G - (i+1))),.ex [] (.slice (some ⟨g,0,none⟩) n c),.ex [] (.int .i64 ((i:Nat):Int)),.ex [5,6] (.slice (some ⟨g,i*2,none⟩) (n - i) (c - i))] 8 (by kernel_rfl) ⟨fun _ _ _ h _=>h,fun _ _ _ h _=>h,fun _ _ _ h _=>h,fun _ _ _ h _=>h,fun _ _ _ h _=>h,fun _ _ _ h _=>h,fun _ _ _ h _=>h,fun _ _ _ h _=>h,trivial⟩ ⟨?_,?_,?_,?_,?_,?_,?_,?_,trivial⟩ ?_
 ·rintro vs wd kd ⟨-⟩
  refine WO.bn (fr':=[(9,.slice (some ⟨b,0,none⟩) (n+1) G)]) ⟨⟨_,rfl,rfl⟩,trivial⟩ ?_
  refine WO.v (R.move rfl) rfl ?_
  refine WO.nil ?_
  exact WX.aI rfl rfl (Kp.refl _)
 ·rintro vs wd kd ⟨-⟩
  refine WO.bn (fr':=[(1,.int .i64 ((i:Nat):Int))]) ⟨⟨_,rfl,rfl⟩,trivial⟩ ?_
  refine WO.v (R.move rfl) rfl ?_
  refine WO.nil ?_
  exact WX.aI rfl rfl (Kp.refl _)
 ·rintro vs wd kd ⟨-⟩
  refine WO.bn (fr':=[(7,.int .i64 ((1:Nat):Int))]) ⟨⟨_,rfl,rfl⟩,trivial⟩ ?_
  refine WO.v (R.move rfl) rfl ?_
  refine WO.nil ?_
  exact WX.aI rfl rfl (Kp.refl _)
 ·rintro vs wd kd ⟨e1,e2,-⟩
  refine WO.bn (fr':=[(47,.int .i64 ((i:Nat):Int)),(48,.int .i64 ((1:Nat):Int))]) ⟨⟨_,rfl,e1⟩,⟨_,rfl,e2⟩,trivial⟩ ?_
  refine WO.v (R.iN rfl rfl (by omega)) rfl ?_
  refine WO.nil ?_
  exact WX.aI rfl rfl (Kp.refl _)
 ·rintro vs wd kd ⟨e0,e3,-⟩
  refine WO.bn (fr':=[(46,.slice (some ⟨b,0,none⟩) (n+1) G),(49,.int .i64 ((i+1:Nat):Int))]) ⟨⟨_,rfl,e0⟩,⟨_,rfl,e3⟩,trivial⟩ ?_
  refine WO.v (R.bX rfl rfl Tryz.underlying23 cf (dg (by omega)) (by omega)) rfl ?_
  refine WO.nil ?_
  exact WX.aI rfl rfl (Kp.refl _)
 ·rintro vs wd kd ⟨-⟩
  refine WO.bn (fr':=[(0,.slice (some ⟨g,0,none⟩) n c)]) ⟨⟨_,rfl,rfl⟩,trivial⟩ ?_
  refine WO.v (R.move rfl) rfl ?_
  refine WO.nil ?_
  exact WX.aI rfl rfl (Kp.refl _)
 ·rintro vs wd kd ⟨-⟩
  refine WO.bn (fr':=[(1,.int .i64 ((i:Nat):Int))]) ⟨⟨_,rfl,rfl⟩,trivial⟩ ?_
  refine WO.v (R.move rfl) rfl ?_
  refine WO.nil ?_
  exact WX.aI rfl rfl (Kp.refl _)
 ·rintro vs wd kd ⟨e5,e6,-⟩
  refine WO.bn (fr':=[(51,.slice (some ⟨g,0,none⟩) n c),(52,.int .i64 ((i:Nat):Int))]) ⟨⟨_,rfl,e5⟩,⟨_,rfl,e6⟩,trivial⟩ ?_
  refine WO.v (R.bX rfl rfl Tryz.underlying23 cf (dg (by omega)) (by omega)) rfl ?_
  refine WO.nil ?_
  exact WX.aI rfl rfl (Kp.refl _)
 rintro vsx w1 k1 ⟨-,-,-,-,e4,-,-,e7,-⟩
 replace k1:Kp [] (W1.setRow b (cur.take (i*2)++vs++cur.drop (i*2+vs.length)).toArray) w1:=k1
 refine WO.bn (fr':=[(50,.slice (some ⟨b,(i+1)*2,none⟩) (n+1 - (i+1)) (G - (i+1))),(53,.slice (some ⟨g,i*2,none⟩) (n - i) (c - i)),(9,.slice (some ⟨b,0,none⟩) (n+1) G)]) ⟨⟨_,rfl,e4⟩,⟨_,rfl,e7⟩,⟨_,rfl,rfl⟩,trivial⟩ ?_
 have hb2:w1.heap[b]? = some (.cells (List.toArray (cur.take (i*2)++vs++cur.drop (i*2+vs.length))) 77 (0,0)):=by rw [k1.block b (by simpa using aW hrow) (by simp)]; exact setRow_heap W1 b _ _ 77 _ hrow
 have hd2:CellsAt w1 ⟨g,i*2,none⟩ ds:=(hd.kp (Kp.setRow W1 b _) hgl (by simpa using hgb.symm)).kp k1 (by simpa using hgl) (by simp)
 refine WO.v (R.kv rfl rfl Tryz.underlying23 cf hb2 hn2 hd2 (by simp only [List.length_append,List.length_take,List.length_drop]; omega) h1d) rfl ?_
 refine WO.nil ?_
 refine WX.next ?_
 refine WC.seq ?_
 refine WC.region ?_
 refine WO.v (R.move rfl) rfl ?_
 refine WO.v (R.assign rfl) rfl ?_
 refine WO.nil ?_
 refine WX.next ?_
 refine WC.ret ?_
 refine WX.gA ?_
 refine WX.sD rfl rfl ?_
 exact ⟨rfl,w1,k1,rfl⟩
set_option maxRecDepth 100000 in
set_option maxHeartbeats 1000000 in
theorem pn {w:World} {g n i c vc:Nat} {ad:Addr} {cur vs ds:List Value} {curA:Array Value} {tA:TypeId} {fA:Nat × Nat} (hi:i<n) (hc:n+1<=c) (hcm:c<=maxLen)
  (hrow:w.heap[g]? = some (.cells cur.toArray 77 (0,0))) (hcur:(n+1)*2<=cur.length) (hv:CellsAt w ad vs) (hvb:w.heap[ad.block]? = some (.cells curA tA fA)) (hvb0:curA.size≠0) (hne:ad.block≠g) (hvl:vs.length=2) (hd:CellsAt w ⟨g,i*2,none⟩ ds) (hdl:ds.length=(n - i)*2)
  (h1v:∀ u ∈ vs,u.oneCell' = true) (h1d:∀ u ∈ ds,u.oneCell' = true) :
  gK Tryz.prog 92 [.slice (some ⟨g,0,none⟩) n c,.int .i64 (i:Int),.slice (some ad) 1 vc].toArray w fun v w'=>v = .slice (some ⟨g,0,none⟩) (n+1) c/\∃ w1,Kp [] w w1/\w' = (w1.setRow g (cur.take ((i+1)*2)++ds++cur.drop ((i+1)*2+ds.length)).toArray).setRow g ((cur.take ((i+1)*2)++ds++cur.drop ((i+1)*2+ds.length)).take (i*2)++vs++(cur.take ((i+1)*2)++ds++cur.drop ((i+1)*2+ds.length)).drop (i*2+vs.length)).toArray:=by
 have hcm:c<=9223372036854775807:=hcm
 have hn1:vs.length=Nat.min 1 (n+1 - i)*2:=by rw [show Nat.min 1 (n+1 - i)=1 from Nat.min_eq_left (by omega),Nat.one_mul]; exact hvl
 have hn2:ds.length=Nat.min (n+1 - i) (n+1 - (i+1))*2:=by rw [show Nat.min (n+1 - i) (n+1 - (i+1))=n+1 - (i+1) from Nat.min_eq_right (by omega),hdl]; congr 1; omega
 refine gK.enter Tryz.func92 rfl rfl rfl rfl ?_
 refine WC.seq ?_
 refine WC.region ?_
 refine WO.v (R.assign rfl) rfl ?_
 refine WO.nil ?_
 refine WX.next ?_
 refine WC.seq ?_
 refine WC.region ?_
 refine WO.v (R.move rfl) rfl ?_
 refine WO.v (R.move rfl) rfl ?_
 refine WO.v (R.bX rfl rfl Tryz.underlying23 cf rfl (by omega)) rfl ?_
 refine WO.nil ?_
 refine WX.next ?_
 refine WC.seq ?_
 refine WC.region ?_
 refine WO.v (R.move rfl) rfl ?_
 refine WO.v (R.len rfl Tryz.underlying23) rfl ?_
 refine WO.v (R.assign rfl) rfl ?_
 refine WO.nil ?_
 refine WX.next ?_
 refine WC.seq ?_
 refine WC.seq ?_
 refine WC.region ?_
 refine WO.v (R.move rfl) rfl ?_
 refine WO.v (R.eql rfl rfl) rfl ?_
 refine WO.nil ?_
 refine WX.next ?_
 refine WC.cond rfl (fun q=>absurd (of_decide_eq_true q) (by omega)) (fun _=>?_)
 refine WC.skip ?_
 refine WX.next ?_
 refine WC.seq ?_
 refine WC.region ?_
 refine WO.v (R.move rfl) rfl ?_
 refine WO.v (R.len rfl Tryz.underlying23) rfl ?_
 refine WO.v (R.assign rfl) rfl ?_
 refine WO.nil ?_
 refine WX.next ?_
 refine WC.seq ?_
 refine WC.seq ?_
 refine WC.region ?_
 refine WO.v (R.move rfl) rfl ?_
 refine WO.v (R.move rfl) rfl ?_
 refine WO.v (R.eql rfl rfl) rfl ?_
 refine WO.nil ?_
 refine WX.next ?_
 refine WC.cond rfl (fun q=>absurd (of_decide_eq_true q) (by omega)) (fun _=>?_)
 refine WC.skip ?_
 refine WX.next ?_
 refine WC.seq ?_
 refine WC.seq ?_
 refine WC.region ?_
 refine WO.v (R.move rfl) rfl ?_
 refine WO.v (R.move rfl) rfl ?_
 refine WO.v (R.iN rfl rfl (by omega)) rfl ?_
 refine WO.v (R.move rfl) rfl ?_
 refine WO.v (R.Dh rfl Tryz.underlying23) rfl ?_
 refine WO.v (R.gtr rfl rfl) rfl ?_
 refine WO.nil ?_
 refine WX.next ?_
 refine WC.cond rfl (fun q=>absurd (of_decide_eq_true q) (by omega)) (fun _=>?_)
 refine WC.skip ?_
 refine WX.next ?_
 refine WC.seq ?_
 refine WC.region ?_
 refine WO.v (R.move rfl) rfl ?_
 refine WO.v (R.move rfl) rfl ?_
 refine WO.v (R.move rfl) rfl ?_
 refine WO.v (R.iN rfl rfl (by omega)) rfl ?_
 refine WO.v (R.jy rfl rfl Tryz.underlying23 cf (dg (i:=0) (by omega)) (by omega)) rfl ?_
 refine WO.v (R.assign rfl) rfl ?_
 refine WO.nil ?_
 refine WX.next ?_
 refine WC.seq ?_
 refine WC.seq ?_
 refine WC.region ?_
 refine WO.v (R.move rfl) rfl ?_
 refine WO.v (R.move rfl) rfl ?_
 refine WO.v (R.move rfl) rfl ?_
 refine WO.v (R.move rfl) rfl ?_
 refine WO.v (R.iN rfl rfl (by omega)) rfl ?_
 refine WO.v (R.bX rfl rfl Tryz.underlying23 cf (dg (by omega)) (by omega)) rfl ?_
 refine WO.v (R.Je (tS:=23) (tR:=4) Tryz.func124 rfl rfl (by kernel_rfl) (by kernel_rfl) Tryz.underlying23 cf hne hvb hvb0 hrow rfl rfl) rfl ?_
 refine WO.v (R.not rfl) rfl ?_
 refine WO.nil ?_
 refine WX.next ?_
 refine WC.xf rfl ?_
 refine WC.seq ?_
 refine WC.nR gq [.ex [] (.slice (some ⟨g,0,none⟩) (n+1) c),.ex [] (.int .i64 ((i:Nat):Int)),.ex [] (.int .i64 ((1:Nat):Int)),.ex [1,2] (.int .i64 ((i+1:Nat):Int)),.ex [0,3] (.slice (some ⟨g,(i+1)*2,none⟩) (n+1 - (i+1)) (c - (i+1))),.ex [] (.slice (some ⟨g,0,none⟩) (n+1) c),.ex [] (.int .i64 ((i:Nat):Int)),.ex [5,6] (.slice (some ⟨g,i*2,none⟩) (n+1 - i) (c - i))] 8 (by kernel_rfl) ⟨fun _ _ _ h _=>h,fun _ _ _ h _=>h,fun _ _ _ h _=>h,fun _ _ _ h _=>h,fun _ _ _ h _=>h,fun _ _ _ h _=>h,fun _ _ _ h _=>h,fun _ _ _ h _=>h,trivial⟩ ⟨?_,?_,?_,?_,?_,?_,?_,?_,trivial⟩ ?_
 ·rintro vs wd kd ⟨-⟩
  refine WO.bn (fr':=[(0,.slice (some ⟨g,0,none⟩) (n+1) c)]) ⟨⟨_,rfl,rfl⟩,trivial⟩ ?_
  refine WO.v (R.move rfl) rfl ?_
  refine WO.nil ?_
  exact WX.aI rfl rfl (Kp.refl _)
 ·rintro vs wd kd ⟨-⟩
  refine WO.bn (fr':=[(1,.int .i64 ((i:Nat):Int))]) ⟨⟨_,rfl,rfl⟩,trivial⟩ ?_
  refine WO.v (R.move rfl) rfl ?_
  refine WO.nil ?_
  exact WX.aI rfl rfl (Kp.refl _)
 ·rintro vs wd kd ⟨-⟩
  refine WO.bn (fr':=[(7,.int .i64 ((1:Nat):Int))]) ⟨⟨_,rfl,rfl⟩,trivial⟩ ?_
  refine WO.v (R.move rfl) rfl ?_
  refine WO.nil ?_
  exact WX.aI rfl rfl (Kp.refl _)
 ·rintro vs wd kd ⟨e1,e2,-⟩
  refine WO.bn (fr':=[(70,.int .i64 ((i:Nat):Int)),(71,.int .i64 ((1:Nat):Int))]) ⟨⟨_,rfl,e1⟩,⟨_,rfl,e2⟩,trivial⟩ ?_
  refine WO.v (R.iN rfl rfl (by omega)) rfl ?_
  refine WO.nil ?_
  exact WX.aI rfl rfl (Kp.refl _)
 ·rintro vs wd kd ⟨e0,e3,-⟩
  refine WO.bn (fr':=[(69,.slice (some ⟨g,0,none⟩) (n+1) c),(72,.int .i64 ((i+1:Nat):Int))]) ⟨⟨_,rfl,e0⟩,⟨_,rfl,e3⟩,trivial⟩ ?_
  refine WO.v (R.bX rfl rfl Tryz.underlying23 cf (dg (by omega)) (by omega)) rfl ?_
  refine WO.nil ?_
  exact WX.aI rfl rfl (Kp.refl _)
 ·rintro vs wd kd ⟨-⟩
  refine WO.bn (fr':=[(0,.slice (some ⟨g,0,none⟩) (n+1) c)]) ⟨⟨_,rfl,rfl⟩,trivial⟩ ?_
  refine WO.v (R.move rfl) rfl ?_
  refine WO.nil ?_
  exact WX.aI rfl rfl (Kp.refl _)
 ·rintro vs wd kd ⟨-⟩
  refine WO.bn (fr':=[(1,.int .i64 ((i:Nat):Int))]) ⟨⟨_,rfl,rfl⟩,trivial⟩ ?_
  refine WO.v (R.move rfl) rfl ?_
  refine WO.nil ?_
  exact WX.aI rfl rfl (Kp.refl _)
 ·rintro vs wd kd ⟨e5,e6,-⟩
  refine WO.bn (fr':=[(74,.slice (some ⟨g,0,none⟩) (n+1) c),(75,.int .i64 ((i:Nat):Int))]) ⟨⟨_,rfl,e5⟩,⟨_,rfl,e6⟩,trivial⟩ ?_
  refine WO.v (R.bX rfl rfl Tryz.underlying23 cf (dg (by omega)) (by omega)) rfl ?_
  refine WO.nil ?_
  exact WX.aI rfl rfl (Kp.refl _)
 rintro vsx w1 k1 ⟨-,-,-,-,e4,-,-,e7,-⟩
 replace k1:Kp [] w w1:=k1
 refine WO.bn (fr':=[(73,.slice (some ⟨g,(i+1)*2,none⟩) (n+1 - (i+1)) (c - (i+1))),(76,.slice (some ⟨g,i*2,none⟩) (n+1 - i) (c - i)),(0,.slice (some ⟨g,0,none⟩) (n+1) c),(1,.int .i64 ((i:Nat):Int)),(2,.slice (some ad) 1 vc)]) ⟨⟨_,rfl,e4⟩,⟨_,rfl,e7⟩,⟨_,rfl,rfl⟩,⟨_,rfl,rfl⟩,⟨_,rfl,rfl⟩,trivial⟩ ?_
 have hg1:w1.heap[g]? = some (.cells (List.toArray cur) 77 (0,0)):=by rw [k1.block g (aW hrow) (by simp)]; exact hrow
 refine WO.v (R.kv rfl rfl Tryz.underlying23 cf hg1 hn2 (hd.kp k1 (aW hrow) (by simp)) (by omega) h1d) rfl ?_
 refine WO.nil ?_
 refine WX.next ?_
 have hg2:(w1.setRow g (cur.take ((i+1)*2)++ds++cur.drop ((i+1)*2+ds.length)).toArray).heap[g]? = some (.cells (List.toArray (cur.take ((i+1)*2)++ds++cur.drop ((i+1)*2+ds.length))) 77 (0,0)):=setRow_heap w1 g _ _ 77 _ hg1
 have hv2:CellsAt (w1.setRow g (cur.take ((i+1)*2)++ds++cur.drop ((i+1)*2+ds.length)).toArray) ad vs:=(hv.kp k1 (aW hvb) (by simp)).kp (Kp.setRow w1 g _) (Nat.lt_of_lt_of_le (aW hvb) k1.size) (by simpa using fun h=>hne h.symm)
 refine WC.seq ?_
 refine WC.region ?_
 refine WO.v (R.move rfl) rfl ?_
 refine WO.v (R.move rfl) rfl ?_
 refine WO.v (R.bX rfl rfl Tryz.underlying23 cf (dg (by omega)) (by omega)) rfl ?_
 refine WO.v (R.move rfl) rfl ?_
 refine WO.v (R.kv rfl rfl Tryz.underlying23 cf hg2 hn1 hv2 (by simp only [List.length_append,List.length_take,List.length_drop]; omega) h1v) rfl ?_
 refine WO.nil ?_
 refine WX.next ?_
 refine WC.seq ?_
 refine WC.region ?_
 refine WO.v (R.move rfl) rfl ?_
 refine WO.v (R.assign rfl) rfl ?_
 refine WO.nil ?_
 refine WX.next ?_
 refine WC.ret ?_
 refine WX.gA ?_
 refine WX.sD rfl rfl ?_
 exact ⟨rfl,w1,k1,rfl⟩
theorem tq {G:Gl} {ρ:List RE} {H:AH} {w:World} (hs:G.shp=au aF) (hR:Rep G ρ H w) {l m:List (den (.nm .opn))} (hH:getO H 0 = .row 77 (.nm .opn) l) (hl:l.length<1048576) {i:Nat} (hi:i<=l.length) {v0:Value} (h0:Rd (cx G ρ w) ρ (.own 0) v0)
  {ad:Addr} {k:Nat} {cys:List Value} {bAV:AV} (hm:m.length=1) (hb:Rd (cx G ρ w) ρ bAV (.slice (some ad) 1 k)) (hbv:(bAV.vw H).fh (.nm .opn)=some m) (hv:CellsAt w ad cys) (hvl:cys.length=2) (h1v:∀ u ∈ cys,u.oneCell' = true) (hp:Pds (cx G ρ w) (m.flatMap (cellsOf (.nm .opn))) cys)
  (hne:∀ g c n z,ρ[0]? = some (.row g c n z)->ad.block≠g) {curA:Array Value} {tA:TypeId} {fA:Nat × Nat} (hvb:w.heap[ad.block]? = some (.cells curA tA fA)) (hvb0:curA.size≠0) :
  gK Tryz.prog 92 [v0,.int .i64 (i:Int),.slice (some ad) 1 k].toArray w fun v w'=>∃ ρ',Stp (wS 0) ρ w ρ' w' /\ Rep G ρ' ((ey (AV.kill 0) H).set 0 (.row 77 (.nm .opn) (l.take i++m++l.drop i))) w' /\ Rd (cx G ρ' w') ρ' (.own 0) v:=by
 have hT:bg Tryz.prog G.shp aF:=hs ▸ fR
 obtain ⟨hshp,hlen⟩:=cK hR hH
 have hl64:l.length<=9223372036854775807:=by omega
 have hin:((l.length:Nat):Int)<=9223372036854775807:=by omega
 by_cases hie:i=l.length
 ·subst hie
  have hc:∃ A c,v0 = .slice A l.length c:=by
   rcases h0 with ⟨g,cap,len,z,h1,rfl⟩ | ⟨h1,a,rfl⟩
   ·rcases bp hR hH with ⟨h2,_⟩ | ⟨g',cap',cells,sp,h2,_⟩
    ·rw [h1] at h2; cases h2
    ·rw [h1] at h2; cases h2; exact ⟨_,_,rfl⟩
   ·rcases bp hR hH with ⟨_,h2⟩ | ⟨g',cap',cells,sp,h2,_⟩
    ·subst h2; exact ⟨_,_,rfl⟩
    ·rw [h1] at h2; cases h2
  obtain ⟨A,c,rfl⟩:=hc
  refine sV fun F x y ty hx hy=>?_
  have happ:fH aF (wS 0) ([]:AFr) H 23 (.own 0) bAV=some ⟨one (.own 0),[],(ey (AV.kill 0) H).set 0 (.row 77 (.nm .opn) (l++m)),[(l.length+m.length)*(Sh.nm NT.opn).bytes<=140737488355328],[]⟩:=by
   unfold fH
   rw [show bm aF 23=some ⟨.sl 77 (some (.nm .opn)),1,[.em true]⟩ from by kernel_rfl]
   simp only [hbv,hH]
   rfl
  obtain ⟨v,w',h1,ρ',h2,h3,_,h5,_⟩:=fE (P:=Tryz.prog) (n:=95) (F:=[]) (ty:=ty) (fr:=[]) (x:=.const (.slice A l.length c)) (y:=.const (.slice (some ad) 1 k)) hT hR .nil happ (by
   intro p hp
   rw [List.mem_singleton] at hp; subst hp
   show (l.length+m.length)*16<=_
   omega) h0 hb rfl rfl
  refine ⟨v,w',R.uV h1 hx hy,ρ',h2,?_,h5⟩
  rw [List.take_length,List.drop_length,List.append_nil]
  exact h3
 ·have hlt:i<l.length:=by omega
  rcases bp hR hH with ⟨_,h2⟩ | ⟨g,cap,cells,sp,hρ,hg,hpd,hsz,hcap,hmax⟩
  ·subst h2; simp at hlt
  obtain ⟨hnb,hil,hiH⟩:=jq hR hH
  have hv0:v0 = .slice (some ⟨g,0,none⟩) l.length cap:=by
   rcases h0 with ⟨g',cap',len,z,h1,rfl⟩ | ⟨h1,a,rfl⟩
   ·rw [hρ] at h1; cases h1; rfl
   ·rw [hρ] at h1; cases h1
  subst hv0
  have hz:(Sh.nm NT.opn).size=2:=rfl
  have hby:(Sh.nm NT.opn).bytes=16:=rfl
  have hcl:cells.length=l.length*2:=by rw [<- hpd.length,bE,hz]
  rw [hz,List.length_append] at hsz
  have hone:∀ u ∈ cells.drop (i*2),u.oneCell' = true:=fun u hu=>hpd.xS u (List.mem_of_mem_drop hu)
  have hd:CellsAt w ⟨g,i*2,none⟩ (cells.drop (i*2)):=by
   have:=(bT hg).shift (i*2)
   rwa [add_lit,Nat.zero_add] at this
  have hdl:(cells.drop (i*2)).length=(l.length - i)*2:=by rw [List.length_drop,hcl]; omega
  have hgl:=aW hg
  have hzl:(l.take i++m++l.drop i).length=l.length+1:=by
   rw [List.length_append,List.length_append,List.length_take,List.length_drop,hm]; omega
  have hnew:∀ {c:Cx},(cx G ρ w).le c->Pds c ((l.take i++m++l.drop i).flatMap (cellsOf (.nm .opn))) (cells.take (i*2)++cys++cells.drop (i*2)):=fun {c} hle=>by
   rw [List.flatMap_append,List.flatMap_append]
   exact (((bA hpd i).append hp).append (bJ hpd i)).carry hle
  have hnl:(cells.take (i*2)++cys++cells.drop (i*2)).length=(l.length+1)*2:=by
   rw [List.length_append,List.length_append,List.length_take,List.length_drop,hcl,hvl]; omega
  have hbig:(l.take i++m++l.drop i).length*(Sh.nm NT.opn).bytes<=140737488355328:=by rw [hzl,hby]; omega
  -- what is shown of any way
  have fin:∀ (S:List Nat) (g2 cap2:Nat) (sp2:List Value) (w':World),Kp S w w' -> (∀ b ∈ S,b=g)->(g2=g\/w.heap.size<=g2)->w'.heap[g2]? = some (.cells (List.toArray (cells.take (i*2)++cys++cells.drop (i*2)++sp2)) 77 (0,0))->(l.length+1)*2+sp2.length=cap2*2->l.length+1<=cap2->cap2<=maxLen ->
    ∃ ρ',Stp (wS 0) ρ w ρ' w' /\ Rep G ρ' ((ey (AV.kill 0) H).set 0 (.row 77 (.nm .opn) (l.take i++m++l.drop i))) w' /\ Rd (cx G ρ' w') ρ' (.own 0) (.slice (some ⟨g2,0,none⟩) (l.length+1) cap2):=by
   intro S g2 cap2 sp2 w' hk hS hg2 hh hlen2 hle2 hmax2
   obtain ⟨k1,k2,_⟩:=jf (ro:=wS 0) (s':=.nm .opn) (e':=77) (zs:=l.take i++m++l.drop i) hR hH ⟨rfl,rfl⟩ hk (fun b hb=>⟨_,hρ,by rw [hS b hb]; rfl⟩) (r':=.row g2 cap2 (l.take i++m++l.drop i).length (Sh.nm NT.opn).size) (fun b hb=>by
    cases hb
    rcases hg2 with rfl | hg2
    ·exact .inl ⟨_,hρ,rfl⟩
    ·exact .inr ⟨hg2,aW hh⟩) (fun hle=>⟨hshp,hbig,.inr ⟨g2,cap2,_,sp2,rfl,hh,hnew hle,by rw [List.length_append,hnl,hz]; exact hlen2,by rw [hzl]; exact hle2,hmax2⟩⟩)
   exact ⟨_,k1,k2,.inl ⟨g2,cap2,_,_,List.getElem?_set_self hil,by rw [hzl]⟩⟩
  have eo:(i+1)*2=i*2+2:=by omega
  by_cases hroom:l.length+1<=cap
  ·refine (pn hlt hroom hmax hg (by rw [List.length_append]; omega) hv hvb hvb0 (hne _ _ _ _ hρ) hvl hd hdl h1v hone).mono fun v w' ⟨e1,w1,k1,e2⟩=>?_
   subst e1; subst e2
   rw [eo,DA (by omega) hvl]
   have hk:Kp [g] w ((w1.setRow g ((cells++sp).take (i*2+2)++cells.drop (i*2)++(cells++sp).drop (i*2+2+(cells.drop (i*2)).length)).toArray).setRow g (cells.take (i*2)++cys++cells.drop (i*2)++sp.drop 2).toArray):=((k1.sub (by simp)).step (Kp.setRow w1 g _) (by simp)).step (Kp.setRow _ g _) (by simp)
   have hg1:w1.heap[g]? = some (.cells (List.toArray (cells++sp)) 77 (0,0)):=by rw [k1.block g hgl (by simp)]; exact hg
   exact fin [g] g cap (sp.drop 2) _ hk (by simp) (.inl rfl) (setRow_heap _ g _ _ 77 _ (setRow_heap w1 g _ _ 77 _ hg1)) (by rw [List.length_drop]; omega) hroom hmax
  ·obtain ⟨ti,hi0,hz0,hz1,hz2⟩:=info_parts t_
   have eik:i+(l.length+1 - i)=l.length+1:=by omega
   have hge:=grownCap_ge w (l.length+1) cap 77
   have hgm:=grownCap_le_maxLen w (l.length+1) cap 77 (by simp [maxLen]; omega)
   have hold:(Builtin.firstCells ti.size i (.slice (some ⟨g,0*2,none⟩) i cap)).run Tryz.prog w.drew = .ok (cells.take (i*2)).toArray w.drew:=by
    have h:=run_loadCells_list (P:=Tryz.prog) w.drew ⟨g,0*2,none⟩ (cells.take (i*2)) (by rw [Nat.zero_mul]; exact (bT hg).take _)
    rw [List.length_take,Nat.min_eq_left (by omega)] at h
    rw [hz1]; exact h
   have happ:∀ (F:Fr) (x y:Operand) (ty:TypeId),ev F x=some (.slice (some ⟨g,0*2,none⟩) i cap)->ev F y=some (.int .i64 ((l.length+1 - i:Nat):Int))->aL Tryz.prog 95 F w (.call { callee:=.builtin .append,args:=#[x,y],argTypes:=#[23,3] }) ty (.slice (some ⟨w.heap.size,0,none⟩) (l.length+1) (grownCap w (l.length+1) cap 77)) (w.drew.alloc (.cells (List.toArray (cells.take (i*2)++((Builtin.zeroCells (Value.agg #[.int .i64 0,.int .i64 0]).cells (l.length+1 - i)).toList++(Builtin.zeroCells (Value.agg #[.int .i64 0,.int .i64 0]).cells (grownCap w (l.length+1) cap 77 - (l.length+1))).toList))) 77)):=fun F x y ty hx hy=>by
    have h:=R.Hg (P:=Tryz.prog) (n:=95) (ty:=ty) hx hy Tryz.underlying23 Tryz.underlying3 hi0 hz0 hold (by omega) (by rw [hz1]; decide) (by omega) (by omega) (by rw [hz2]; omega) (by rw [hz2,eik]; exact growslice_fits (by omega) (by omega))
    rw [eik] at h
    have e:∀ (a:List Value) (b c:Array Value),a.toArray++b++c=(a++(b.toList++c.toList)).toArray:=fun a b c=>by apply Array.ext'; simp
    rw [e] at h
    exact h
   have hcurl:(cells.take (i*2)++((Builtin.zeroCells (Value.agg #[.int .i64 0,.int .i64 0]).cells (l.length+1 - i)).toList++(Builtin.zeroCells (Value.agg #[.int .i64 0,.int .i64 0]).cells (grownCap w (l.length+1) cap 77 - (l.length+1))).toList)).length=grownCap w (l.length+1) cap 77*2:=by
    rw [List.length_append,List.length_append,List.length_take,lx,lx]
    show min _ _+((l.length+1 - i)*2+(grownCap w (l.length+1) cap 77 - (l.length+1))*2)=_
    omega
   have htk:(cells.take (i*2)++((Builtin.zeroCells (Value.agg #[.int .i64 0,.int .i64 0]).cells (l.length+1 - i)).toList++(Builtin.zeroCells (Value.agg #[.int .i64 0,.int .i64 0]).cells (grownCap w (l.length+1) cap 77 - (l.length+1))).toList)).take (i*2)=cells.take (i*2):=List.take_left' (by rw [List.length_take]; omega)
   generalize grownCap w (l.length+1) cap 77=GC at *
   generalize cells.take (i*2)++((Builtin.zeroCells (Value.agg #[.int .i64 0,.int .i64 0]).cells (l.length+1 - i)).toList++(Builtin.zeroCells (Value.agg #[.int .i64 0,.int .i64 0]).cells (GC - (l.length+1))).toList)=cur at *
   have hK1:Kp [] w (w.drew.alloc (.cells (List.toArray cur) 77)):=((Kp.refl w).drew).step (Kp.alloc w.drew _) (by simp)
   have hrow:(w.drew.alloc (.cells (List.toArray cur) 77)).heap[w.heap.size]? = some (.cells (List.toArray cur) 77 (0,0)):=heap_alloc_new w.drew _
   generalize w.drew.alloc (.cells (List.toArray cur) 77)=W1 at *
   refine (rN hlt hcap (by omega) hmax hge hgm happ hrow (by omega) (hv.kp hK1 (aW hvb) (by simp)) hvl (hd.kp hK1 hgl (by simp)) (by omega) (Nat.lt_of_lt_of_le hgl hK1.size) hdl h1v hone).mono fun v w' ⟨e1,w1,k1,e2⟩=>?_
   subst e1; subst e2
   rw [eo,Dx (cells:=cells) (by omega) hvl htk]
   have hs1:∀ b ∈ [w.heap.size],b ∈ ([]:List Nat)\/w.heap.size<=b:=fun b hb=>.inr (by rw [List.mem_singleton] at hb; omega)
   have hk:Kp [] w (w1.setRow w.heap.size (cells.take (i*2)++cys++cells.drop (i*2)++cur.drop (i*2+2+(cells.drop (i*2)).length)).toArray):=((hK1.step (Kp.setRow W1 w.heap.size _) hs1).step k1 (by simp)).step (Kp.setRow w1 w.heap.size _) hs1
   have hg1:=(k1.block w.heap.size (by simpa using aW hrow) (by simp)).trans (setRow_heap W1 w.heap.size _ (cur.take (i*2)++cys++cur.drop (i*2+cys.length)).toArray 77 _ hrow)
   exact fin [] w.heap.size GC _ _ hk (by simp) (.inr (Nat.le_refl _)) (setRow_heap w1 w.heap.size _ _ 77 _ hg1) (by rw [List.length_drop]; omega) hge hgm
theorem oK (i:Int) (l m:List (den (.nm .opn))) (h:0<=i/\i<=(l.length:Int)) (hl:l.length<1048576) (hm:m.length=1):Sat Tryz.prog (au aF) 92 [.c (.own 0),.c (.int i),.c (.fz (.nm .opn) m)] [.row 77 (.nm .opn) l] ⟨[0<=i/\i<=(l.length:Int),l.length<1048576,m.length=1],[.c (.own 0)],some [.row 77 (.nm .opn) (l.take i.toNat++m++l.drop i.toNat)],false⟩:=by
 refine ⟨⟨_,Tryz.func92,by decide,rfl⟩,fun G ρ w vs hs hR hvs=>?_⟩
 obtain ⟨i,rfl⟩:=Int.eq_ofNat_of_zero_le h.1
 cases hvs with | cons h0 hvs=>
 cases hvs with | cons h1 hvs=>
 cases hvs with | cons h2 hvs=>
 cases hvs
 have h1:Pd (cx G ρ w) (.int (i:Int)) _:=h1
 cases h1
 have h0:Rd (cx G ρ w) ρ (.own 0) _:=h0
 have h2:Rd (cx G ρ w) ρ (.fz (.nm .opn) m) _:=h2
 have hH:getO [AO.row 77 (.nm .opn) l] 0 = .row 77 (.nm .opn) l:=rfl
 have hbv:(AV.vw [AO.row 77 (.nm .opn) l] (.fz (.nm .opn) m)).fh (.nm .opn)=some m:=by simp [AV.vw,AV.fh,getO]
 obtain ⟨A,k,cys,rfl,s1,s2,s3,s4⟩:=k_ hR hbv h2
 rw [hm] at h2 s1 s3
 rw [hm]
 obtain ⟨ad,rfl,s5⟩:∃ ad,A=some ad/\CellsAt w ad cys:=s3.resolve_left (by decide)
 have hz:(Sh.nm NT.opn).size=2:=rfl
 rw [hz] at s1
 obtain ⟨u,hu⟩:∃ u,cys[0]? = some u:=⟨_,List.getElem?_eq_getElem (by omega)⟩
 obtain ⟨cur,t,f,hc,hc0⟩:=nO (s5 0 u hu)
 have hne:∀ g c n z,ρ[0]? = some (.row g c n z)->ad.block≠g:=fun g c n z hg e=>by
  have h2:Pd (cx G ρ w) (.fz (.nm .opn) m) (.slice (some ad) 1 k):=h2
  have h3:=Ed h2 (by rw [hm]; decide)
  exact h3.1.2.1 ⟨0,_,hg,by rw [e]; rfl⟩
 rw [ff] at hc
 refine (tq hs hR hH hl (by omega) h0 hm h2 hbv s5 s1 s2 s4 hne hc hc0).mono fun v w' ⟨ρ',k1,k2,k3⟩=>?_
 exact ⟨[v],rfl,ρ',k2,k1.ext,k1.bx,.cons k3 .nil,fun hb=>by cases hb⟩
theorem AF:(Builtin.zeroCells (Value.agg #[.int .i64 0,.int .i64 0]).cells 1).toList=[.int .i64 0,.int .i64 0]:=by kernel_rfl
set_option maxRecDepth 100000 in
set_option maxHeartbeats 1000000 in
theorem xQ {w:World} {g n i c:Nat} {cur ds:List Value} {ti:TypeInfo} (hi:i<n) (hnc:n<=c) (hcm:c<=maxLen) (hg:w.heap[g]? = some (.cells cur.toArray 77 (0,0))) (hcur:n*2<=cur.length) (hdl:ds.length=(n - (i+1))*2) (hd:CellsAt w (if c=i+1 then ⟨g,0,none⟩ else (⟨g,0,none⟩:Addr).add ((i+1)*2)) ds) (h1d:∀ u ∈ ds,u.oneCell' = true)
  (hi0:Tryz.prog.info? 77=some ti) (hz0:ti.zero=some (.agg #[.int .i64 0,.int .i64 0])) (hz1:ti.size=2) :
  gK Tryz.prog 95 [.slice (some ⟨g,0,none⟩) n c,.int .i64 (i:Int),.int .i64 ((i+1:Nat):Int)].toArray w fun v w'=>v = .slice (some ⟨g,0,none⟩) (i+(n - (i+1))) c/\∃ w1,Kp [] w w1/\w' = (w1.setRow g (cur.take (i*ti.size)++ds++cur.drop (i*ti.size+ds.length)).toArray).setRow g ((cur.take (i*ti.size)++ds++cur.drop (i*ti.size+ds.length)).take ((i+(n - (i+1)))*2)++(Builtin.zeroCells (Value.agg #[.int .i64 0,.int .i64 0]).cells 1).toList++(cur.take (i*ti.size)++ds++cur.drop (i*ti.size+ds.length)).drop ((i+(n - (i+1)))*2+(Builtin.zeroCells (Value.agg #[.int .i64 0,.int .i64 0]).cells 1).toList.length)).toArray:=by
 have hcm:c<=9223372036854775807:=hcm
 refine gK.enter Tryz.func95 rfl rfl rfl rfl ?_
 refine WC.seq ?_
 refine WC.region ?_
 refine WO.v (R.assign rfl) rfl ?_
 refine WO.nil ?_
 refine WX.next ?_
 refine WC.seq ?_
 refine WC.region ?_
 refine WO.v (R.move rfl) rfl ?_
 refine WO.v (R.move rfl) rfl ?_
 refine WO.v (R.move rfl) rfl ?_
 refine WO.v (R.move rfl) rfl ?_
 refine WO.v (R.len rfl Tryz.underlying23) rfl ?_
 refine WO.v (R.slice3 rfl rfl rfl rfl Tryz.underlying23 cf (by omega) (by omega) (by omega)) rfl ?_
 refine WO.nil ?_
 refine WX.next ?_
 refine WC.seq ?_
 refine WC.seq ?_
 refine WC.region ?_
 refine WO.v (R.move rfl) rfl ?_
 refine WO.v (R.move rfl) rfl ?_
 refine WO.v (R.eql rfl rfl) rfl ?_
 refine WO.nil ?_
 refine WX.next ?_
 refine WC.cond rfl (fun q=>absurd (of_decide_eq_true q) (by omega)) (fun _=>?_)
 refine WC.skip ?_
 refine WX.next ?_
 refine WC.seq ?_
 refine WC.region ?_
 refine WO.v (R.move rfl) rfl ?_
 refine WO.v (R.len rfl Tryz.underlying23) rfl ?_
 refine WO.v (R.assign rfl) rfl ?_
 refine WO.nil ?_
 refine WX.next ?_
 refine WC.seq ?_
 refine WC.nR gq [.ex [] (.slice (some ⟨g,0,none⟩) n c),.ex [] (.int .i64 ((i:Nat):Int)),.ex [0,1] (.slice (some ⟨g,0*2,none⟩) (i - 0) (c - 0)),.ex [] (.slice (some ⟨g,0,none⟩) n c),.ex [] (.int .i64 ((i+1:Nat):Int)),.ex [3,4] (.slice (some (if c=i+1 then ⟨g,0,none⟩ else (⟨g,0,none⟩:Addr).add ((i+1)*2))) (n - (i+1)) (c - (i+1)))] 6 (by kernel_rfl) ⟨fun _ _ _ h _=>h,fun _ _ _ h _=>h,fun _ _ _ h _=>h,fun _ _ _ h _=>h,fun _ _ _ h _=>h,fun _ _ _ h _=>h,trivial⟩ ⟨?_,?_,?_,?_,?_,?_,trivial⟩ ?_
 ·rintro vs wd kd ⟨-⟩
  refine WO.bn (fr':=[(0,.slice (some ⟨g,0,none⟩) n c)]) ⟨⟨_,rfl,rfl⟩,trivial⟩ ?_
  refine WO.v (R.move rfl) rfl ?_
  refine WO.nil ?_
  exact WX.aI rfl rfl (Kp.refl _)
 ·rintro vs wd kd ⟨-⟩
  refine WO.bn (fr':=[(1,.int .i64 ((i:Nat):Int))]) ⟨⟨_,rfl,rfl⟩,trivial⟩ ?_
  refine WO.v (R.move rfl) rfl ?_
  refine WO.nil ?_
  exact WX.aI rfl rfl (Kp.refl _)
 ·rintro vs wd kd ⟨e0,e1,-⟩
  refine WO.bn (fr':=[(20,.slice (some ⟨g,0,none⟩) n c),(21,.int .i64 ((i:Nat):Int))]) ⟨⟨_,rfl,e0⟩,⟨_,rfl,e1⟩,trivial⟩ ?_
  refine WO.v (R.jy rfl rfl Tryz.underlying23 cf (dg (i:=0) (by omega)) (by omega)) rfl ?_
  refine WO.nil ?_
  exact WX.aI rfl rfl (Kp.refl _)
 ·rintro vs wd kd ⟨-⟩
  refine WO.bn (fr':=[(0,.slice (some ⟨g,0,none⟩) n c)]) ⟨⟨_,rfl,rfl⟩,trivial⟩ ?_
  refine WO.v (R.move rfl) rfl ?_
  refine WO.nil ?_
  exact WX.aI rfl rfl (Kp.refl _)
 ·rintro vs wd kd ⟨-⟩
  refine WO.bn (fr':=[(2,.int .i64 ((i+1:Nat):Int))]) ⟨⟨_,rfl,rfl⟩,trivial⟩ ?_
  refine WO.v (R.move rfl) rfl ?_
  refine WO.nil ?_
  exact WX.aI rfl rfl (Kp.refl _)
 ·rintro vs wd kd ⟨e3,e4,-⟩
  refine WO.bn (fr':=[(23,.slice (some ⟨g,0,none⟩) n c),(24,.int .i64 ((i+1:Nat):Int))]) ⟨⟨_,rfl,e3⟩,⟨_,rfl,e4⟩,trivial⟩ ?_
  refine WO.v (R.bX rfl rfl Tryz.underlying23 cf Gj (by omega)) rfl ?_
  refine WO.nil ?_
  exact WX.aI rfl rfl (Kp.refl _)
 rintro vsx w1 k1 ⟨-,-,e2,-,-,e5,-⟩
 replace k1:Kp [] w w1:=k1
 refine WO.bn (fr':=[(22,.slice (some ⟨g,0*2,none⟩) (i - 0) (c - 0)),(25,.slice (some (if c=i+1 then ⟨g,0,none⟩ else (⟨g,0,none⟩:Addr).add ((i+1)*2))) (n - (i+1)) (c - (i+1))),(7,.int .i64 ((n:Nat):Int))]) ⟨⟨_,rfl,e2⟩,⟨_,rfl,e5⟩,⟨_,rfl,rfl⟩,trivial⟩ ?_
 have hg1:w1.heap[g]? = some (.cells (List.toArray cur) 77 (0,0)):=by rw [k1.block g (aW hg) (by simp)]; exact hg
 have hd1:CellsAt w1 (if c=i+1 then ⟨g,0,none⟩ else (⟨g,0,none⟩:Addr).add ((i+1)*2)) ds:=hd.keep (k1.block _ (by split <;> exact aW hg) (by simp))
 refine WO.v (R.Dg (sl:=i) (sc:=c) rfl rfl Tryz.underlying23 hi0 hg1 (by rw [hz1]; exact hdl) hd1 h1d (by omega) (by rw [hz1]; omega)) rfl ?_
 refine WO.v (R.assign rfl) rfl ?_
 refine WO.nil ?_
 refine WX.next ?_
 have hg2:=setRow_heap w1 g _ (cur.take (i*ti.size)++ds++cur.drop (i*ti.size+ds.length)).toArray 77 _ hg1
 refine WC.seq ?_
 refine WC.region ?_
 refine WO.v (R.move rfl) rfl ?_
 refine WO.v (R.move rfl) rfl ?_
 refine WO.v (R.len rfl Tryz.underlying23) rfl ?_
 refine WO.v (R.move rfl) rfl ?_
 refine WO.v (R.uD rfl rfl rfl Tryz.underlying23 cf (dg (by omega)) (by omega) (by omega)) rfl ?_
 refine WO.v0 (R.Jm rfl (by omega) Tryz.underlying23 hi0 hz0 (by rw [AF]; simp [Value.oneCell']) hg2 (by rw [lx,hz1]; simp only [List.length_append,List.length_take,List.length_drop]; show _+1*2<=_; omega)) ?_
 refine WO.nil ?_
 refine WX.next ?_
 refine WC.seq ?_
 refine WC.region ?_
 refine WO.v (R.move rfl) rfl ?_
 refine WO.v (R.assign rfl) rfl ?_
 refine WO.nil ?_
 refine WX.next ?_
 refine WC.ret ?_
 refine WX.sD rfl rfl ?_
 exact ⟨rfl,w1,k1,rfl⟩
theorem ry (i j:Int) (l:List (den (.nm .opn))) (h:0<=i/\i<(l.length:Int)/\j=i+1):Sat Tryz.prog (au aF) 95 [.c (.own 0),.c (.int i),.c (.int j)] [.row 77 (.nm .opn) l] ⟨[0<=i/\i<(l.length:Int)/\j=i+1],[.c (.own 0)],some [.row 77 (.nm .opn) (l.take i.toNat++l.drop j.toNat)],false⟩:=by
 refine ⟨⟨_,Tryz.func95,by decide,rfl⟩,fun G ρ w vs hs hR hvs=>?_⟩
 obtain ⟨hi0,hi1,rfl⟩:=h
 obtain ⟨i,rfl⟩:=Int.eq_ofNat_of_zero_le hi0
 have hlt:i<l.length:=by omega
 cases hvs with | cons h0 hvs=>
 cases hvs with | cons h1 hvs=>
 cases hvs with | cons h2 hvs=>
 cases hvs
 have h1:Pd (cx G ρ w) (.int (i:Int)) _:=h1
 have h2:Pd (cx G ρ w) (.int ((i:Int)+1)) _:=h2
 cases h1
 cases h2
 have h0:Rd (cx G ρ w) ρ (.own 0) _:=h0
 have hH:getO [AO.row 77 (.nm .opn) l] 0 = .row 77 (.nm .opn) l:=rfl
 obtain ⟨hshp,hlen⟩:=cK hR hH
 rcases bp hR hH with ⟨_,h2⟩ | ⟨g,cap,cells,sp,hρ,hg,hpd,hsz,hcap,hmax⟩
 ·subst h2; simp at hlt
 obtain ⟨hnb,hil,hiH⟩:=jq hR hH
 have hz:(Sh.nm NT.opn).size=2:=rfl
 have hby:(Sh.nm NT.opn).bytes=16:=rfl
 have hcl:cells.length=l.length*2:=by rw [<- hpd.length,bE,hz]
 rw [hz,List.length_append] at hsz
 rw [hby] at hlen
 obtain ⟨ti,hi0,hz0,hz1,hz2⟩:=info_parts t_
 have hone:∀ u ∈ cells.drop ((i+1)*2),u.oneCell' = true:=fun u hu=>hpd.xS u (List.mem_of_mem_drop hu)
 have hd:CellsAt w (if cap=i+1 then ⟨g,0,none⟩ else (⟨g,0,none⟩:Addr).add ((i+1)*2)) (cells.drop ((i+1)*2)):=by
  split
  ·rw [List.drop_of_length_le (by omega)]; exact CellsAt.nil
  ·exact (bT hg).shift _
 have hv0:∀ v,Rd (cx G ρ w) ρ (.own 0) v->v = .slice (some ⟨g,0,none⟩) l.length cap:=fun v h0=>by
  rcases h0 with ⟨g',cap',len,z,h1,rfl⟩ | ⟨h1,a,rfl⟩
  ·rw [hρ] at h1; cases h1; rfl
  ·rw [hρ] at h1; cases h1
 obtain rfl:=hv0 _ h0
 have e0:((i:Int)+1)=((i+1:Nat):Int):=by omega
 rw [e0]
 refine (xQ hlt hcap hmax hg (by rw [List.length_append]; omega) (by rw [List.length_drop,hcl]; omega) hd hone hi0 hz0 hz1).mono fun v w' ⟨e1,w1,k1,e2⟩=>?_
 subst e1
 have hq:i+(l.length - (i+1))=l.length - 1:=by omega
 rw [hq,hz1,AF] at e2
 rw [hq]
 have hzl:(l.take i++l.drop (i+1)).length=l.length - 1:=by rw [List.length_append,List.length_take,List.length_drop]; omega
 have hnl:(cells.take (i*2)++cells.drop ((i+1)*2)).length=(l.length - 1)*2:=by rw [List.length_append,List.length_take,List.length_drop]; omega
 have htk:((cells++sp).take (i*2)++cells.drop ((i+1)*2)++(cells++sp).drop (i*2+(cells.drop ((i+1)*2)).length)).take ((l.length - 1)*2)=cells.take (i*2)++cells.drop ((i+1)*2):=by
  rw [List.take_append_of_le_length (l₁:=cells) (by omega)]
  exact List.take_left' hnl
 have hr1l:((cells++sp).take (i*2)++cells.drop ((i+1)*2)++(cells++sp).drop (i*2+(cells.drop ((i+1)*2)).length)).length=cap*2:=by
  simp only [List.length_append,List.length_drop,List.length_take]
  omega
 generalize (cells++sp).take (i*2)++cells.drop ((i+1)*2)++(cells++sp).drop (i*2+(cells.drop ((i+1)*2)).length)=r1 at e2 htk hr1l
 rw [htk,List.append_assoc] at e2
 generalize hsp2:([.int .i64 0,.int .i64 0]:List Value)++List.drop ((l.length - 1)*2+([.int .i64 0,.int .i64 0]:List Value).length) r1=sp2 at e2
 have hlen2:(l.length - 1)*2+sp2.length=cap*2:=by
  rw [<- hsp2]
  simp only [List.length_append,List.length_cons,List.length_nil,List.length_drop]
  omega
 have hg1:w1.heap[g]? = some (.cells (List.toArray (cells++sp)) 77 (0,0)):=by rw [k1.block g (aW hg) (by simp)]; exact hg
 have hh:=setRow_heap _ g _ (cells.take (i*2)++cells.drop ((i+1)*2)++sp2).toArray 77 _ (setRow_heap w1 g _ r1.toArray 77 _ hg1)
 have hk:=((k1.sub (T:=[g]) (by simp)).step (Kp.setRow w1 g r1.toArray) (by simp)).step (Kp.setRow _ g (cells.take (i*2)++cells.drop ((i+1)*2)++sp2).toArray) (by simp)
 subst e2
 obtain ⟨k2,k3,_⟩:=jf (ro:=wS 0) (s':=.nm .opn) (e':=77) (zs:=l.take i++l.drop (i+1)) hR hH ⟨rfl,rfl⟩ hk (fun b hb=>⟨_,hρ,by rw [List.mem_singleton] at hb; subst hb; rfl⟩) (r':=.row g cap (l.take i++l.drop (i+1)).length (Sh.nm NT.opn).size) (fun b hb=>by
  cases hb; exact .inl ⟨_,hρ,rfl⟩) (fun hle=>⟨hshp,by rw [hzl,hby]; omega,.inr ⟨g,cap,_,sp2,rfl,hh,by
   rw [List.flatMap_append]; exact ((bA hpd i).append (bJ hpd (i+1))).carry hle,by rw [List.length_append,hnl,hz]; exact hlen2,by omega,hmax⟩⟩)
 exact ⟨[_],rfl,_,k3,k2.ext,k2.bx,.cons (.inl ⟨g,cap,_,_,List.getElem?_set_self hil,by rw [hzl]⟩) .nil,fun hb=>by cases hb⟩
end Go.Proofs.YtdggohppeeaipaaGreat
namespace Go.Proofs.YtdggohppeeaipaaGreat
open Go.RowKit
def ml {β:Type} (z:β) (k:Int):List (Int × β)->β
 | []=>z
 | p :: r=>if k=p.1 then p.2 else ml z k r
end Go.Proofs.YtdggohppeeaipaaGreat
namespace Go.Proofs.YtdggohppeeaipaaGreat
open Go.RowKit
def fv (n:Int):Bool:=decide (1<=n) && decide (n<=3)
theorem aD {α:Type} {l:List α} {k:Nat} {x:α} (hx:l[k]? = some x):l.take (k+1)=l.take k++[x]:=by
 rw [List.take_add_one,hx]; rfl
end Go.Proofs.YtdggohppeeaipaaGreat
namespace Go.Proofs.YtdggohppeeaipaaGreat
open Go.RowKit
end Go.Proofs.YtdggohppeeaipaaGreat
namespace Go.Proofs.YtdggohppeeaipaaGreat
open Go.RowKit
theorem jV {α:Type} [DecidableEq α] {l m:List α} (h:¬ ((l.length:Nat):Int)=((m.length:Nat):Int)):false=decide (l=m):=by
 symm; apply decide_eq_false; rintro rfl; exact h rfl
theorem eU {α:Type} [DecidableEq α] {l m:List α} {k:Nat} (hl:l.length=m.length) (h:l.take k=m.take k) (hk:l.length<=k):true=decide (l=m):=by
 symm; apply decide_eq_true
 rwa [List.take_of_length_le hk,List.take_of_length_le (by omega)] at h
def bl (n a b:Int):Bool:=decide (a<=n) && decide (n<=b)
def ak {α:Type} (key:α->Int) (most:Int):Int->List α->Bool
 | _,[]=>true
 | a,x :: r=>bl (key x) (a+1) most && ak key most (key x) r
def bf {α:Type} (key:α->Int) (a:Int) (l:List α):Int:=l.foldl (fun _ x=>key x) a
theorem eE {α:Type} {key:α->Int} {most:Int} {x:α}:∀ (p:List α) (a:Int),ak key most a (p++[x])=(ak key most a p && bl (key x) (bf key a p+1) most)
 | [],a=>by simp [ak,bf]
 | y :: p,a=>by
  rw [List.cons_append,ak,ak,eE p,Bool.and_assoc]; rfl
theorem gM {α:Type} {key:α->Int} {most:Int} (q:List α):∀ (p:List α) (a:Int),ak key most a (p++q)=true->ak key most a p=true
 | [],a,_=>rfl
 | y :: p,a,h=>by
  rw [List.cons_append,ak,Bool.and_eq_true] at h
  rw [ak,Bool.and_eq_true]
  exact ⟨h.1,gM q p _ h.2⟩
theorem bG {α:Type} {key:α->Int} {a:Int} {l:List α} {k:Nat} {x:α} (hx:l[k]? = some x):key x=bf key a (l.take (k+1)):=by
 rw [aD hx,bf,List.foldl_append]; rfl
theorem mz {α:Type} {key:α->Int} {a:Int} {l:List α} {k:Nat} {x:α} (h:0<k) (hx:l[k - 1]? = some x):bf key a (l.take k)=key x:=by
 obtain ⟨j,rfl⟩:∃ j,k=j+1:=⟨k - 1,by omega⟩
 exact (bG (by simpa using hx)).symm
theorem gm {α:Type} {key:α->Int} {most a:Int} {l:List α} {k:Nat} {x:α} (h:ak key most a (l.take k)=true) (hx:l[k]? = some x) (h1:bf key a (l.take k)<key x) (h2:key x<=most):ak key most a (l.take (k+1))=true:=by
 rw [aD hx,eE,h,Bool.true_and,bl,Bool.and_eq_true,decide_eq_true_eq,decide_eq_true_eq]
 exact ⟨by omega,h2⟩
theorem ku {α:Type} {key:α->Int} {most a:Int} {l:List α} {k:Nat} {x:α} (hx:l[k]? = some x) (h:¬ (bf key a (l.take k)<key x/\key x<=most)):ak key most a l=false:=by
 cases hr:ak key most a l with
 | false=>rfl
 | true=>
  have h1:=gM (l.drop (k+1)) (l.take (k+1)) a (by rw [List.take_append_drop]; exact hr)
  rw [aD hx,eE,Bool.and_eq_true,bl,Bool.and_eq_true,decide_eq_true_eq,decide_eq_true_eq] at h1
  exact absurd ⟨by omega,h1.2.2⟩ h
theorem ga {α:Type} {key:α->Int} {most a:Int} {l:List α} {k:Nat} (h:ak key most a (l.take k)=true) (hk:l.length<=k):ak key most a l=true:=by
 rwa [List.take_of_length_le hk] at h
def cF (l:List Int):Bool:=(decide ((1:Int)<=((l.length:Nat):Int)) && decide (((l.length:Nat):Int)<=8)) && ak id 64 0 l
theorem gw {l:List Int} {k:Nat} {x:Int} (hx:l[k]? = some x) (h:¬ (bf id 0 (l.take k)<x/\x<=64)):false=cF l:=by
 rw [cF,ku (key:=id) hx h,Bool.and_false]
theorem jI {l:List Int} {k:Nat} (h:ak id 64 0 (l.take k)=true) (hk:l.length<=k):(decide ((1:Int)<=((l.length:Nat):Int)) && decide (((l.length:Nat):Int)<=8))=cF l:=by
 rw [cF,ga h hk,Bool.and_true]
theorem vJ {l:List Int} {k:Nat} (h:ak id 64 0 (l.take k)=true):0<=bf id 0 (l.take k):=by
 by_cases hk:k=0
 ·subst hk; exact Int.le_refl _
 ·by_cases hl:k - 1<l.length
  ·have hx:=List.getElem?_eq_getElem hl
   rw [mz (by omega) hx]
   have e:l.take k=l.take (k - 1)++[l[k - 1]]:=by
    have:=aD hx
    rwa [show k - 1+1=k by omega] at this
   rw [e,eE,Bool.and_eq_true,bl,Bool.and_eq_true,decide_eq_true_eq] at h
   have h0:∀ (p:List Int) (a:Int),0<=a->ak id 64 a p=true->0<=bf id a p:=by
    intro p
    induction p with
    | nil=>intro a ha _; exact ha
    | cons y p ih=>
     intro a ha hp
     rw [ak,Bool.and_eq_true,bl,Bool.and_eq_true,decide_eq_true_eq] at hp
     exact ih (id y) (by omega) hp.2
   have:=h0 _ _ (Int.le_refl 0) h.1
   omega
  ·have h0:∀ (p:List Int) (a:Int),0<=a->ak id 64 a p=true->0<=bf id a p:=by
    intro p
    induction p with
    | nil=>intro a ha _; exact ha
    | cons y p ih=>
     intro a ha hp
     rw [ak,Bool.and_eq_true,bl,Bool.and_eq_true,decide_eq_true_eq] at hp
     exact ih (id y) (by omega) hp.2
   exact h0 _ _ (Int.le_refl 0) h
theorem hX {l:List Int} {k:Nat} (h:ak id 64 0 (l.take k)=true) (hk:l.length<=k) (hl:1<=l.length/\l.length<=8):true=cF l:=by
 rw [cF,ga h hk,Bool.and_true]; symm; rw [Bool.and_eq_true,decide_eq_true_eq,decide_eq_true_eq]; omega
theorem lE {l:List Int} (hl:¬ (1<=l.length/\l.length<=8)):false=cF l:=by
 symm
 rw [cF,Bool.and_eq_false_iff]; left
 rw [Bool.and_eq_false_iff,decide_eq_false_iff_not,decide_eq_false_iff_not]; omega
end Go.Proofs.YtdggohppeeaipaaGreat
namespace Go.Proofs.YtdggohppeeaipaaGreat
open Go.RowKit
def bM (x:Sess):Bool:=(bl x.seq 0 1048576 && bl x.last.code 0 99) && bl x.last.n 0 1048576
def bR (x:Opn):Bool:=bl x.client 1 8
theorem dr {α:Type} {p:α->Bool} {l:List α} {k:Nat} {x:α} (h:(l.take k).all p=true) (hx:l[k]? = some x) (hp:p x=true):(l.take (k+1)).all p=true:=by
 rw [aD hx,List.all_append,h]; simp [hp]
theorem zx {α:Type} {p:α->Bool} {l:List α} {k:Nat} {x:α} (hx:l[k]? = some x) (hp:p x=false):l.all p=false:=by
 rw [List.all_eq_false]; exact ⟨x,List.mem_of_getElem? hx,by simp [hp]⟩
theorem Ah {α:Type} {p:α->Bool} {l:List α} {k:Nat} (h:(l.take k).all p=true) (hk:l.length<=k):l.all p=true:=by
 rwa [List.take_of_length_le hk] at h
end Go.Proofs.YtdggohppeeaipaaGreat
namespace Go.Proofs.YtdggohppeeaipaaGreat
open Go.RowKit
def aV (n:Nat):Nat:=if h:n<128 then 1 else aV (n / 128)+1
termination_by n
decreasing_by omega
theorem mW {n:Nat} (h:¬ n<128):aV n=aV (n / 128)+1:=by rw [aV,dif_neg h]
theorem gV {n:Nat} (h:n<128):aV n=1:=by rw [aV,dif_pos h]
theorem gD (n:Nat):1<=aV n:=by rw [aV]; split <;> omega
theorem pY:∀ (k n:Nat),n<128 ^ (k+1)->aV n<=k+1
 | 0,n,h=>by rw [gV (by simpa using h)]; omega
 | k+1,n,h=>by
  by_cases hn:n<128
  ·rw [gV hn]; omega
  ·rw [mW hn]
   have:=pY k (n / 128) (by rw [Nat.div_lt_iff_lt_mul (by omega),<- Nat.pow_succ]; exact h)
   omega
theorem mi {n:Nat} (h:n<18446744073709551616):aV n<=10:=pY 9 n (Nat.lt_of_lt_of_le h (by decide))
def Bp (n i:Nat):UInt8:=UInt8.ofNat (n / 128 ^ i) ||| 128
def dv (n k:Nat):List UInt8:=(List.range k).map (Bp n)++List.replicate (aV n - k) 0
def lH (n:Nat):List UInt8:=(dv n (aV n)).set (aV n - 1) (Bp n (aV n - 1) &&& 127)
theorem eO {n k:Nat} (h:k<=aV n):(dv n k).length=aV n:=by simp [dv]; omega
theorem sm {n k:Nat} (h:k<aV n):(dv n k).set k (Bp n k)=dv n (k+1):=by
 unfold dv
 rw [List.set_append_right _ _ (by simp),List.range_succ,List.map_append,List.append_assoc]
 congr 1
 obtain ⟨j,hj⟩:∃ j,aV n - k=j+1:=⟨aV n - k - 1,by omega⟩
 rw [hj,show aV n - (k+1)=j by omega]
 simp [List.replicate_succ]
theorem gT (n:Nat):List.replicate (aV n) (0:UInt8)=dv n 0:=by simp [dv]
theorem tu {n:Nat} {x:UInt8} (h:(dv n (aV n))[aV n - 1]? = some x):x=Bp n (aV n - 1):=by
 have hp:=gD n
 unfold dv at h
 rw [List.getElem?_append_left (by simp; omega)] at h
 simp only [List.getElem?_map,List.getElem?_range (show aV n - 1<aV n by omega),Option.map_some,Option.some.injEq] at h
 exact h.symm
theorem div_pow {n k:Nat}:n / 128 ^ k / 2 ^ 7=n / 128 ^ (k+1):=by show n / 128 ^ k / 128=_; rw [Nat.div_div_eq_div_mul,Nat.pow_succ]
theorem yn (n:Nat):(lH n).length=aV n:=by rw [lH,List.length_set,eO (Nat.le_refl _)]
theorem mP {n:Nat} (h:n<18446744073709551616):(lH n).length<=10:=by rw [yn]; exact mi h
def dY (l:List Int):List UInt8:=l.flatMap fun x=>lH x.toNat
theorem jl {l:List Int} {k:Nat} {x:Int} (hx:l[k]? = some x):dY (l.take k)++lH x.toNat=dY (l.take (k+1)):=by
 rw [aD hx]; simp [dY]
theorem zb {l:List Int} (h:∀ x ∈ l,x<=64):(dY l).length<=10*l.length:=by
 induction l with
 | nil=>simp [dY]
 | cons a l ih=>
  have h1:=ih fun x hx=>h x (List.mem_cons_of_mem _ hx)
  have h2:=mP (n:=a.toNat) (by have:=h a (by simp); omega)
  simp only [dY,List.flatMap_cons,List.length_append,List.length_cons] at *
  omega
theorem sU {l:List Int} (h:cF l=true):∀ x ∈ l,0<x/\x<=64:=by
 rw [cF,Bool.and_eq_true] at h
 have:∀ (l:List Int) (a:Int),0<=a->ak id 64 a l=true->∀ x ∈ l,0<x/\x<=64:=by
  intro l
  induction l with
  | nil=>intro a _ _ x hx; cases hx
  | cons y l ih=>
   intro a ha hl x hx
   rw [ak,Bool.and_eq_true,bl,Bool.and_eq_true,decide_eq_true_eq,decide_eq_true_eq] at hl
   have h1:a+1<=y:=hl.1.1
   have h2:y<=64:=hl.1.2
   rcases List.mem_cons.1 hx with rfl | hx
   ·omega
   ·exact ih (id y) (by show 0<=y; omega) hl.2 x hx
 exact this l 0 (by omega) h.2
theorem ow {l:List Int} (h:cF l=true):1<=l.length/\l.length<=8:=by
 rw [cF,Bool.and_eq_true,Bool.and_eq_true,decide_eq_true_eq,decide_eq_true_eq] at h
 omega
def fC (l:List Int):List UInt8:=if cF l then dY l else []
def cY (l:List Int):Int:=if cF l then 0 else 1
theorem mG {l:List Int} {k:Nat} (hr:cF l=true) (hk:l.length<=k):dY (l.take k)=fC l:=by rw [List.take_of_length_le hk,fC,if_pos hr]
theorem jD {l:List Int} (hr:cF l=false):[]=fC l:=by rw [fC,hr]; rfl
theorem ez {l:List Int} (hr:cF l=true):0=cY l:=by rw [cY,hr]; rfl
theorem fJ {l:List Int} (hr:cF l=false):1=cY l:=by rw [cY,hr]; rfl
end Go.Proofs.YtdggohppeeaipaaGreat
namespace Go.Proofs.YtdggohppeeaipaaGreat
open Go.RowKit
def bk (v t:Int) (x:Snap):Bool:=((decide (cY x.chunks=0) && bl x.set 1 8) && (!x.held || decide (2<=v))) && decide (((x.tag.b.length:Nat):Int)<=t)
def du (v:Int):Int:=if v<3 then 0 else 16
def dx (s:State) (v:Int):Bool:=!(decide (16<((s.snaps.length:Nat):Int)) || !(ak Snap.id (s.next - 1) 0 s.snaps)) && s.snaps.all (bk v (du v))
def cW (s:State) (v:Int):Bool:=((bl s.version 1 3 && bl s.next 1 1048576) && bl s.keep 0 8) && bl s.quota 0 (if v<3 then 0 else 64)
def lG (s:State):Bool:=ak Sess.client 8 0 s.sess && s.sess.all bM
def jG (s:State):Bool:=ak Opn.set 8 0 s.opens && s.opens.all bR
def mayF (s:State) (v:Int):Int:=if !(bl v 1 3) then 1 else if (((!cW s v || !lG s) || !jG s) || !dx s v) then 6 else 0
end Go.Proofs.YtdggohppeeaipaaGreat
namespace Go.Proofs.YtdggohppeeaipaaGreat
open Go.RowKit
end Go.Proofs.YtdggohppeeaipaaGreat
namespace Go.Proofs.YtdggohppeeaipaaGreat
open Go.RowKit
end Go.Proofs.YtdggohppeeaipaaGreat
namespace Go.Proofs.YtdggohppeeaipaaGreat
open Go.RowKit
end Go.Proofs.YtdggohppeeaipaaGreat
namespace Go.Proofs.YtdggohppeeaipaaGreat
open Go.RowKit
def bw (k:Int):Int:=ml 0 k [((1:Int),(1:Int)),((2:Int),(1:Int)),((3:Int),(1:Int)),((4:Int),(1:Int)),((5:Int),(1:Int)),((6:Int),(1:Int)),((7:Int),(1:Int)),((8:Int),(1:Int)),((9:Int),(2:Int)),((10:Int),(2:Int)),((11:Int),(3:Int)),((12:Int),(3:Int))]
theorem CL {k:Int} (h:1<=k/\k<=12):bw k=if k<=8 then 1 else if k<=10 then 2 else 3:=by
 have:k=1\/k=2\/k=3\/k=4\/k=5\/k=6\/k=7\/k=8\/k=9\/k=10\/k=11\/k=12:=by omega
 rcases this with rfl | rfl | rfl | rfl | rfl | rfl | rfl | rfl | rfl | rfl | rfl | rfl <;> rfl
theorem Bb {k:Int} (h:¬ (1<=k/\k<=12)):bw k=0:=by
 unfold bw
 simp only [ml]
 repeat rw [if_neg (by omega)]
theorem kD {n a b:Int} (h:bl n a b=true):a<=n/\n<=b:=by unfold bl at h; rw [Bool.and_eq_true,decide_eq_true_eq,decide_eq_true_eq] at h; exact h
theorem Jg {n a b:Int} (h:bl n a b=false):¬ (a<=n/\n<=b):=fun h2=>by
 have:bl n a b=true:=by unfold bl; rw [Bool.and_eq_true,decide_eq_true_eq,decide_eq_true_eq]; exact h2
 rw [h] at this; cases this
def g_ (c:Command):Command:={ c with chunks:=c.chunks.take 12,text:=c.text.cut 0 40 }
def eT (x:Int) (l:List Int):Int:=match l.findIdx? (fun y=>decide (x=y)) with | some i=>(i:Int) | none=>-1
theorem yH {x y:Int} {l:List Int} {k:Nat} (h:∀ j y,j<k->l[j]? = some y->¬ x=y) (hy:l[k]? = some y) (hxy:x=y):(k:Int)=eT x l:=by
 have:l.findIdx? (fun y=>decide (x=y))=some k:=by
  obtain ⟨hk,rfl⟩:=List.getElem?_eq_some_iff.1 hy
  rw [List.findIdx?_eq_some_iff_getElem]
  exact ⟨hk,decide_eq_true hxy,fun j hj=>by simpa using h j _ hj (List.getElem?_eq_getElem (by omega))⟩
 simp [eT,this]
theorem ud (x:Int) (l:List Int):decide (0<=eT x l)=l.contains x:=by
 unfold eT
 cases h:l.findIdx? (fun y=>decide (x=y)) with
 | none=>
  rw [List.findIdx?_eq_none_iff] at h
  have:l.contains x=false:=by
   rw [<- Bool.not_eq_true,List.contains_iff_mem]
   intro hm; have:=h x hm; simp at this
  rw [this]; rfl
 | some i=>
  rw [List.findIdx?_eq_some_iff_getElem] at h
  obtain ⟨hi,hp,_⟩:=h
  have:l.contains x=true:=by
   rw [List.contains_iff_mem,of_decide_eq_true hp]; exact List.getElem_mem hi
  rw [this]; simp
def fO (n most:Int) (named:Bool):Bool:=if named then (decide (1<=n) && decide (n<=most)) else decide (n=0)
def fT (k:Int):Int × Int:=ml (0,0) k [((6:Int),((0:Int),(8:Int))),((8:Int),((2:Int),(3:Int))),((12:Int),((0:Int),(64:Int)))]
def uO (c:Command):Bool:=if c.kind=3 then cF c.chunks else decide (((c.chunks.length:Nat):Int)=0)
def Gr (c:Command):Bool:=if c.kind=11 then decide (((c.text.b.length:Nat):Int)<=16) else decide (c.text=⟨[]⟩)
def di (c:Command):Bool:=((((((((decide ((fT c.kind).1<=c.n) && decide (c.n<=(fT c.kind).2)) && uO c) && Gr c) && fO c.client 8 (!([(8:Int)].contains c.kind))) && fO c.seq 1048576 (!([(1:Int),8].contains c.kind))) && fO c.set 8 ([(2:Int),3,4].contains c.kind)) && fO c.id 1048576 ([(5:Int),7,9,10,11].contains c.kind)))
def aY (c:Command) (v:Int):Int:=if !(bl v 1 3) || decide (bw c.kind=0) then 1 else if v<bw c.kind then 10 else if !di c then 1 else 0
end Go.Proofs.YtdggohppeeaipaaGreat
namespace Go.Proofs.YtdggohppeeaipaaGreat
open Go.RowKit
def Dq (n:Int) (used:Bool) (lo hi:Int):Bool:=if used then (decide (lo<=n) && decide (n<=hi)) else decide (n=0)
def iB (k:Int):Int × Int:=(if k=8 then 2 else 0,if k=8 then 3 else if k=12 then 64 else 8)
theorem CM {s:Str}:decide (((s.b.length:Nat):Int)=0)=decide (s=⟨[]⟩):=by
 cases s with | mk b=>
 cases b with
 | nil=>simp
 | cons a t=>rw [Bool.eq_iff_iff]; simp; omega
theorem rY {k:Int}:(!decide (k=8))=(!([(8:Int)].contains k)):=by
 rw [Bool.eq_iff_iff]; simp
theorem yS {k:Int}:(!decide (k=8) && !decide (k=1))=(!([(1:Int),8].contains k)):=by
 rw [Bool.eq_iff_iff]; simp; omega
theorem xy {k:Int}:(decide (2<=k) && decide (k<=4))=([(2:Int),3,4].contains k):=by
 rw [Bool.eq_iff_iff]; simp; omega
theorem CQ {k:Int}:((decide (k=5) || decide (k=7)) || (decide (9<=k) && decide (k<=11)))=([(5:Int),7,9,10,11].contains k):=by
 rw [Bool.eq_iff_iff]; simp; omega
theorem EZ {k n:Int}:Dq n ((decide (k=6) || decide (k=8)) || decide (k=12)) (iB k).1 (iB k).2=(decide ((fT k).1<=n) && decide (n<=(fT k).2)):=by
 by_cases h6:k=6
 ·subst h6; rfl
 by_cases h8:k=8
 ·subst h8; rfl
 by_cases h12:k=12
 ·subst h12; rfl
 have e:fT k=(0,0):=by simp [fT,ml,h6,h8,h12]
 rw [e,Bool.eq_iff_iff]
 simp [Dq,h6,h8,h12]
 omega
theorem Gb {c:Command}:(decide (((c.text.b.length:Nat):Int)=0) || (decide (c.kind=11) && decide (((c.text.b.length:Nat):Int)<=16)))=Gr c:=by
 unfold Gr
 by_cases h:c.kind=11
 ·rw [if_pos h,Bool.eq_iff_iff]; simp only [Bool.or_eq_true,Bool.and_eq_true,decide_eq_true_eq,h,true_and]; omega
 ·rw [if_neg h,CM]; simp [h]
theorem IB {n m:Int} {u:Bool}:Dq n u 1 m=fO n m u:=rfl
theorem yX {c:Command} :
  ((((((Dq c.client (!decide (c.kind=8)) 1 8 && Dq c.seq (!decide (c.kind=8) && !decide (c.kind=1)) 1 1048576) && Dq c.set (decide (2<=c.kind) && decide (c.kind<=4)) 1 8) &&
   Dq c.id ((decide (c.kind=5) || decide (c.kind=7)) || (decide (9<=c.kind) && decide (c.kind<=11))) 1 1048576) &&
   Dq c.n ((decide (c.kind=6) || decide (c.kind=8)) || decide (c.kind=12)) (iB c.kind).1 (iB c.kind).2) && uO c) &&
   (decide (((c.text.b.length:Nat):Int)=0) || (decide (c.kind=11) && decide (((c.text.b.length:Nat):Int)<=16))))=di c:=by
 rw [yS,rY,xy,CQ,EZ,Gb]
 unfold di
 simp only [IB]
 ac_rfl
theorem Hy {c:Command} {v:Int} (h:(!(bl v 1 3) || decide (bw c.kind=0))=true):1=aY c v:=by rw [aY,if_pos h]
theorem FL {c:Command} {v:Int} (h:(!(bl v 1 3) || decide (bw c.kind=0))=false) (h2:v<bw c.kind):10=aY c v:=by rw [aY,h,if_neg (by decide),if_pos h2]
theorem Ez {c:Command} {v:Int} (h:(!(bl v 1 3) || decide (bw c.kind=0))=false) (h2:¬ v<bw c.kind) (h3:(!di c)=true):1=aY c v:=by rw [aY,h,if_neg (by decide),if_neg h2,if_pos h3]
theorem Ho {c:Command} {v:Int} (h:(!(bl v 1 3) || decide (bw c.kind=0))=false) (h2:¬ v<bw c.kind) (h3:(!di c)=false):0=aY c v:=by rw [aY,h,if_neg (by decide),if_neg h2,h3,if_neg (by decide)]
end Go.Proofs.YtdggohppeeaipaaGreat
namespace Go.Proofs.YtdggohppeeaipaaGreat
open Go.RowKit
end Go.Proofs.YtdggohppeeaipaaGreat
namespace Go.Proofs.YtdggohppeeaipaaGreat
open Go.RowKit
def jN (k:Int):Bool:=decide (1<=k) && decide (k<=3)
theorem qw {α:Type} {a b:List α} {k:Nat} {d:α} (h:a.take k=b.take k) (ha:k<a.length) (hb:k<b.length) (e:a.getD k d=b.getD k d):a.take (k+1)=b.take (k+1):=by
 have h1:a[k]? = some (a.getD k d):=by rw [List.getD_eq_getElem?_getD,List.getElem?_eq_getElem ha]; rfl
 have h2:b[k]? = some (b.getD k d):=by rw [List.getD_eq_getElem?_getD,List.getElem?_eq_getElem hb]; rfl
 rw [aD h1,aD h2,h,e]
theorem lR {s:Str} {n:Nat} (h:(s.b.length:Int)<=n):s=⟨s.b.take n⟩:=by
 cases s; rw [List.take_of_length_le (by simpa using h)]
theorem FI {l:List Int} {k:Nat} {x:Int} (hx:l[k]? = some x):x=bf id 0 (l.take (k+1)):=bG (key:=id) hx
theorem yh {l:List Int} {k:Nat} {x:Int} (h:ak id 64 0 (l.take k)=true) (hx:l[k]? = some x) (h1:bf id 0 (l.take k)<x) (h2:x<=64):ak id 64 0 (l.take (k+1))=true:=gm (key:=id) h hx (by dsimp only [id]; omega) (by dsimp only [id]; omega)
def GS (l:List Int):List (Nat × LI):=[(5,{ σ:=Nat,F:=fun k=>([(3,one (.int (bf id 0 (l.take k)))),(14,one (.fz .int (l))),(15,one (.int (l).length)),(16,one (.int k))],[]),J:=fun k=>k<=l.length/\ak id 64 0 (l.take k)=true/\1<=l.length/\l.length<=8,μ:=fun k=>(l).length - k })]
def DL (a:List Int) (b:List Int):List (Nat × LI):=[(4,{ σ:=Nat,F:=fun k=>([(0,one (.fz .int (a))),(1,one (.fz .int (b))),(5,one (.int k))],[]),J:=fun k=>k<=a.length/\a.length=b.length/\a.take k=b.take k,μ:=fun k=>a.length - k })]
theorem Ct (k:Int) (r0:Bool):cP aF jH [] Tryz.f120 [.c (.int (k))] [] [.c (.bool (.atom (r0)))]=(I64 k->(decide ((1:Int)<=k) && decide (k<=(3:Int)))=r0):=by kernel_rfl
theorem CD (k:Int):Sat Tryz.prog (au aF) 120 [.c (.int (k))] [] ⟨[],[.c (.bool (.atom ((jN k))))],none,false⟩:=by
 refine aQ cX [] Tryz.func120 (by decide) (by kernel_rfl) ?_
 rw [Ct]
 grind [jN]
theorem GV (l:List Int) (r0:Bool):cP aF jH (GS l) Tryz.f140 [.c (.fz .int (l))] [] [.c (.bool (.atom (r0)))]=((fun (q3:Int)=>(fun (q2:Int)=>(fun (q1:Nat)=>(fun (q0:Prop)=>l.length*(8:Nat)<=(140737488355328:Nat)->(q3<(1:Int)\/(8:Int)<q3->false=r0)/\((1:Int)<=q3/\q3<=(8:Int)->∃ (s0:Nat),(q2=bf id q2 (List.take s0 l)/\l=l/\q3=(↑q1:Int)/\q2=(↑s0:Int))/\(s0<=q1/\ak id (64:Int) q2 (List.take s0 l)=true/\q0)/\∀ (s:Nat),s<=q1/\ak id (64:Int) q2 (List.take s l)=true/\q0->((↑s:Int)<(↑q1:Int)->q2<=(↑s:Int)/\(↑s:Int)<q3/\∀ (x:Int),l[s]? = some x->I64 x->(x<=bf id q2 (List.take s l)\/(64:Int)<x->false=r0)/\(bf id q2 (List.take s l)<x/\x<=(64:Int)->I64 ((↑s:Int)+(1:Int))/\∃ (s':Nat),(x=bf id q2 (List.take s' l)/\l=l/\(↑q1:Int)=(↑q1:Int)/\(↑s:Int)+(1:Int)=(↑s':Int))/\(s' <= q1/\ak id (64:Int) q2 (List.take s' l)=true/\q0)/\q1 - s' < q1 - s))/\((↑q1:Int)<=(↑s:Int)->true=r0))) ((1:Nat)<=q1/\q1<=(8:Nat))) l.length) (0:Int)) (↑l.length:Int)):=by kernel_rfl
theorem Hb (l:List Int):Sat Tryz.prog (au aF) 140 [.c (.fz .int (l))] [] ⟨[],[.c (.bool (.atom ((cF l))))],none,false⟩:=by
 refine aQ cX (GS l) Tryz.func140 (by decide) (by kernel_rfl) ?_
 rw [GV]
 (repeat' (first | refine And.intro ?_ ?_ | intro))
 all_goals try (grind [lE,gw,hX,FI,yh,ak,bf])
 all_goals (refine ⟨0,?_⟩; (repeat' (first | refine And.intro ?_ ?_ | intro)))
 all_goals try (grind [lE,gw,hX,FI,yh,ak,bf])
 all_goals (refine ⟨‹Nat› + 1,?_⟩; (repeat' (first | refine And.intro ?_ ?_ | intro)))
 all_goals grind [lE,gw,hX,FI,yh,ak,bf]
theorem Fc (a:List Int) (b:List Int) (r0:Bool):cP aF jH (DL a b) Tryz.f130 [.c (.fz .int (a)),.c (.fz .int (b))] [] [.c (.bool (.atom (r0)))]=((fun (q1:Nat)=>(fun (q0:Int)=>a.length*(8:Nat)<=(140737488355328:Nat)->b.length*(8:Nat)<=(140737488355328:Nat)->(¬q0=(↑b.length:Int)->false=r0)/\(q0=(↑b.length:Int)->∃ (s0:Nat),(a=a/\b=b/\(0:Int)=(↑s0:Int))/\(s0<=q1/\q1=b.length/\List.take s0 a=List.take s0 b)/\∀ (s:Nat),(fun (q2:Prop)=>s<=q1/\q1=b.length/\List.take s a=List.take s b->((↑s:Int)<q0->(0:Int)<=(↑s:Int)/\(↑s:Int)<q0/\(0:Int)<=(↑s:Int)/\(↑s:Int)<(↑b.length:Int)/\(I64 (a.getD s (dflt Sh.int))->I64 (b.getD s (dflt Sh.int))->(¬q2->false=r0)/\(q2->I64 ((↑s:Int)+(1:Int))/\∃ (s':Nat),(a=a/\b=b/\(↑s:Int)+(1:Int)=(↑s':Int))/\(s' <= q1/\q1=b.length/\List.take s' a=List.take s' b)/\q1 - s' < q1 - s)))/\(q0<=(↑s:Int)->true=r0)) (a.getD s (dflt Sh.int)=b.getD s (dflt Sh.int)))) (↑a.length:Int)) a.length):=by kernel_rfl
theorem EK (a:List Int) (b:List Int):Sat Tryz.prog (au aF) 130 [.c (.fz .int (a)),.c (.fz .int (b))] [] ⟨[],[.c (.bool (.atom ((decide (a=b)))))],none,false⟩:=by
 refine aQ cX (DL a b) Tryz.func130 (by decide) (by kernel_rfl) ?_
 rw [Fc]
 (repeat' (first | refine And.intro ?_ ?_ | intro))
 all_goals try (grind [aD])
 all_goals (refine ⟨0,?_⟩; (repeat' (first | refine And.intro ?_ ?_ | intro)))
 all_goals try (grind [aD])
 all_goals (refine ⟨‹Nat› + 1,?_⟩; (repeat' (first | refine And.intro ?_ ?_ | intro)))
 all_goals first | exact qw (by grind) (by omega) (by omega) (by with_reducible assumption) | grind
theorem Fp (x:Int) (r0:Int):cP aF jH [] Tryz.f119 [.c (.int (x))] [] [.c (.int (r0))]=((fun (q0:Option (den Sh.int))=>I64 x->((fun (j:Int)=>if j=(12:Int) then some (3:Int) else (fun (j:Int)=>if j=(11:Int) then some (3:Int) else (fun (j:Int)=>if j=(10:Int) then some (2:Int) else (fun (j:Int)=>if j=(9:Int) then some (2:Int) else (fun (j:Int)=>if j=(8:Int) then q0 else (fun (j:Int)=>if j=(7:Int) then q0 else (fun (j:Int)=>if j=(6:Int) then q0 else (fun (j:Int)=>if j=(5:Int) then q0 else (fun (j:Int)=>if j=(4:Int) then q0 else (fun (j:Int)=>if j=(3:Int) then q0 else (fun (j:Int)=>if j=(2:Int) then q0 else (fun (j:Int)=>if j=(1:Int) then q0 else (fun (_:Int)=>none) j) j) j) j) j) j) j) j) j) j) j) j) x).getD (dflt Sh.int)=r0) (some (1:Int))):=by kernel_rfl
theorem Fz (x:Int):Sat Tryz.prog (au aF) 119 [.c (.int (x))] [] ⟨[],[.c (.int ((bw x)))],none,false⟩:=by
 refine aQ cX [] Tryz.func119 (by decide) (by kernel_rfl) ?_
 rw [Fp]
 intro _
 simp only [bw,ml]
 by_cases h:1<=x/\x<=12
 ·have h2:x=1\/x=2\/x=3\/x=4\/x=5\/x=6\/x=7\/x=8\/x=9\/x=10\/x=11\/x=12:=by omega
  rcases h2 with rfl | rfl | rfl | rfl | rfl | rfl | rfl | rfl | rfl | rfl | rfl | rfl <;> rfl
 ·have h1:¬ x=1:=by omega
  have h2:¬ x=2:=by omega
  have h3:¬ x=3:=by omega
  have h4:¬ x=4:=by omega
  have h5:¬ x=5:=by omega
  have h6:¬ x=6:=by omega
  have h7:¬ x=7:=by omega
  have h8:¬ x=8:=by omega
  have h9:¬ x=9:=by omega
  have h10:¬ x=10:=by omega
  have h11:¬ x=11:=by omega
  have h12:¬ x=12:=by omega
  simp [h1,h2,h3,h4,h5,h6,h7,h8,h9,h10,h11,h12,dflt]
theorem GQ (s:Span) (k:Int) (r0:Bool):cP aF jH [] Tryz.f139 [.agg (cellsOf (.nm .span) s),.c (.int (k))] [] [.c (.bool (.atom (r0)))]=(I64 s.lo->I64 s.hi->I64 k->(decide (s.lo<=k) && decide (k<=s.hi))=r0):=by kernel_rfl
theorem HM (s:Span) (k:Int):Sat Tryz.prog (au aF) 139 [.agg (cellsOf (.nm .span) s),.c (.int (k))] [] ⟨[],[.c (.bool (.atom ((decide (s.lo<=k) && decide (k<=s.hi)))))],none,false⟩:=by
 refine aQ cX [] Tryz.func139 (by decide) (by kernel_rfl) ?_
 rw [GQ]
 grind
theorem yc (n:Int) (a:Int) (b:Int) (r0:Bool):cP aF jH [] Tryz.f110 [.c (.int (n)),.c (.int (a)),.c (.int (b))] [] [.c (.bool (.atom (r0)))]=(I64 n->I64 a->I64 b->(decide (a<=n) && decide (n<=b))=r0):=by kernel_rfl
theorem yr (n:Int) (a:Int) (b:Int):Sat Tryz.prog (au aF) 110 [.c (.int (n)),.c (.int (a)),.c (.int (b))] [] ⟨[],[.c (.bool (.atom ((bl n a b))))],none,false⟩:=by
 refine aQ cX [] Tryz.func110 (by decide) (by kernel_rfl) ?_
 rw [yc]
 grind [bl]
theorem Gx (n:Int) (a:Int) (b:Int) (r0:Bool):cP aF jH [] Tryz.f69 [.c (.int (n)),.c (.int (a)),.c (.int (b))] [] [.c (.bool (.atom (r0)))]=(I64 n->I64 a->I64 b->(decide (a<=n) && decide (n<=b))=r0):=by kernel_rfl
theorem GH (n:Int) (a:Int) (b:Int):Sat Tryz.prog (au aF) 69 [.c (.int (n)),.c (.int (a)),.c (.int (b))] [] ⟨[],[.c (.bool (.atom ((bl n a b))))],none,false⟩:=by
 refine aQ cX [] Tryz.func69 (by decide) (by kernel_rfl) ?_
 rw [Gx]
 grind [bl]
theorem sO (x:Sess) (r0:Int):cP aF jH [] Tryz.f86 [.agg (cellsOf (.nm .sess) x)] [] [.c (.int (r0))]=(I64 x.client->I64 x.seq->I64 x.last.code->I64 x.last.n->x.client=r0):=by kernel_rfl
theorem sg (x:Sess):Sat Tryz.prog (au aF) 86 [.agg (cellsOf (.nm .sess) x)] [] ⟨[],[.c (.int ((x.client)))],none,false⟩:=by
 refine aQ cX [] Tryz.func86 (by decide) (by kernel_rfl) ?_
 rw [sO]
 grind
theorem CX (x:Opn) (r0:Int):cP aF jH [] Tryz.f115 [.agg (cellsOf (.nm .opn) x)] [] [.c (.int (r0))]=(I64 x.set->I64 x.client->x.set=r0):=by kernel_rfl
theorem Bi (x:Opn):Sat Tryz.prog (au aF) 115 [.agg (cellsOf (.nm .opn) x)] [] ⟨[],[.c (.int ((x.set)))],none,false⟩:=by
 refine aQ cX [] Tryz.func115 (by decide) (by kernel_rfl) ?_
 rw [CX]
 grind
theorem FG (x:Snap) (r0:Int):cP aF jH [] Tryz.f90 [.agg (cellsOf (.nm .snap) x)] [] [.c (.int (r0))]=(I64 x.id->I64 x.set->x.chunks.length*(8:Nat)<=(140737488355328:Nat)->x.tag.b.length<=(140737488355328:Nat)->x.id=r0):=by kernel_rfl
theorem Fo (x:Snap):Sat Tryz.prog (au aF) 90 [.agg (cellsOf (.nm .snap) x)] [] ⟨[],[.c (.int ((x.id)))],none,false⟩:=by
 refine aQ cX [] Tryz.func90 (by decide) (by kernel_rfl) ?_
 rw [FG]
 grind
theorem vv (e:Int) (r0:Reply):cP aF jH [] Tryz.f34 [.c (.int (e))] [] [.agg (cellsOf (.nm .reply) r0)]=(I64 e->e=r0.code/\(0:Int)=r0.n):=by kernel_rfl
theorem wm (e:Int):Sat Tryz.prog (au aF) 34 [.c (.int (e))] [] ⟨[],[.agg (cellsOf (.nm .reply) (⟨e,0⟩))],none,false⟩:=by
 refine aQ cX [] Tryz.func34 (by decide) (by kernel_rfl) ?_
 rw [vv]
 grind
def yF:cw:=(bS 34 (bL (ai (kC cI) aO) aN fun (e,_) (_)=>⟨[],[.agg (cellsOf (.nm .reply) (⟨e,0⟩))],none,false⟩) (bS 90 (bL (ai (kT (.nm .snap)) aO) aN fun (x,_) (_)=>⟨[],[.c (.int ((x.id)))],none,false⟩) (bS 115 (bL (ai (kT (.nm .opn)) aO) aN fun (x,_) (_)=>⟨[],[.c (.int ((x.set)))],none,false⟩) (bS 86 (bL (ai (kT (.nm .sess)) aO) aN fun (x,_) (_)=>⟨[],[.c (.int ((x.client)))],none,false⟩) (bS 69 (bL (ai (kC cI) (ai (kC cI) (ai (kC cI) aO))) aN fun (n,a,b,_) (_)=>⟨[],[.c (.bool (.atom ((bl n a b))))],none,false⟩) (bS 110 (bL (ai (kC cI) (ai (kC cI) (ai (kC cI) aO))) aN fun (n,a,b,_) (_)=>⟨[],[.c (.bool (.atom ((bl n a b))))],none,false⟩) (bS 139 (bL (ai (kT (.nm .span)) (ai (kC cI) aO)) aN fun (s,k,_) (_)=>⟨[],[.c (.bool (.atom ((decide (s.lo<=k) && decide (k<=s.hi)))))],none,false⟩) (bS 119 (bL (ai (kC cI) aO) aN fun (x,_) (_)=>⟨[],[.c (.int ((bw x)))],none,false⟩) (bS 130 (bL (ai (kC (cL .int)) (ai (kC (cL .int)) aO)) aN fun (a,b,_) (_)=>⟨[],[.c (.bool (.atom ((decide (a=b)))))],none,false⟩) (bS 140 (bL (ai (kC (cL .int)) aO) aN fun (l,_) (_)=>⟨[],[.c (.bool (.atom ((cF l))))],none,false⟩) (bS 120 (bL (ai (kC cI) aO) aN fun (k,_) (_)=>⟨[],[.c (.bool (.atom ((jN k))))],none,false⟩) jH)))))))))))
theorem kU:aT Tryz.prog (au aF) yF:=(aA (az (ab (av ax) ao) aq fun (e,_) (_) _=>wm e ) (aA (az (ab bI ao) aq fun (x,_) (_) _=>Fo x ) (aA (az (ab bI ao) aq fun (x,_) (_) _=>Bi x ) (aA (az (ab bI ao) aq fun (x,_) (_) _=>sg x ) (aA (az (ab (av ax) (ab (av ax) (ab (av ax) ao))) aq fun (n,a,b,_) (_) _=>GH n a b ) (aA (az (ab (av ax) (ab (av ax) (ab (av ax) ao))) aq fun (n,a,b,_) (_) _=>yr n a b ) (aA (az (ab bI (ab (av ax) ao)) aq fun (s,k,_) (_) _=>HM s k ) (aA (az (ab (av ax) ao) aq fun (x,_) (_) _=>Fz x ) (aA (az (ab (av bN) (ab (av bN) ao)) aq fun (a,b,_) (_) _=>EK a b ) (aA (az (ab (av bN) ao) aq fun (l,_) (_) _=>Hb l ) (aA (az (ab (av ax) ao) aq fun (k,_) (_) _=>CD k ) cX)))))))))))
end Go.Proofs.YtdggohppeeaipaaGreat
namespace Go.Proofs.YtdggohppeeaipaaGreat
open Go.RowKit
theorem al {n:Int} (h1:-9223372036854775808<=n) (h2:n<=9223372036854775807):I64 n:=⟨h1,h2⟩
def ah {α:Type} (key:α->Int) (want:Int) (l:List α):Int:=match l.findIdx? (fun x=>decide (key x=want)) with
 | some i=>(i:Int)
 | none=>-1
section
variable {α:Type} {key:α->Int} {want:Int} {l:List α} {k:Nat} {x:α}
theorem hP:ah key want l = -1↔∀ x ∈ l,¬ key x=want:=by
 unfold ah
 cases h:l.findIdx? (fun x=>decide (key x=want)) with
 | none=>simpa using h
 | some i=>
  rw [List.findIdx?_eq_some_iff_getElem] at h
  obtain ⟨h1,h2,_⟩:=h
  simp only [decide_eq_true_eq] at h2
  constructor
  ·intro h; dsimp only at h; omega
  ·intro h; exact absurd h2 (h _ (List.getElem_mem h1))
theorem dR:ah key want (l.take 0) = -1:=rfl
theorem dk (h:ah key want (l.take k) = -1) (hx:l[k]? = some x) (hn:¬ key x=want):ah key want (l.take (k+1)) = -1:=by
 rw [hP] at h ⊢
 rw [aD hx]
 intro y hy
 rcases List.mem_append.1 hy with hy | hy
 ·exact h y hy
 ·rw [List.mem_singleton] at hy; subst hy; exact hn
theorem dw (h:ah key want (l.take k) = -1) (hk:l.length<=k):-1=ah key want l:=by
 rw [List.take_of_length_le hk] at h; exact h.symm
theorem cM (h:ah key want (l.take k) = -1) (hx:l[k]? = some x) (he:key x=want):(k:Int)=ah key want l:=by
 have:l.findIdx? (fun x=>decide (key x=want))=some k:=by
  rw [hP] at h
  obtain ⟨hk,rfl⟩:=List.getElem?_eq_some_iff.1 hx
  rw [List.findIdx?_eq_some_iff_getElem]
  refine ⟨hk,decide_eq_true he,fun j hj=>?_⟩
  have:=h l[j] (by rw [List.mem_take_iff_getElem]; exact ⟨j,by omega,rfl⟩)
  simpa using this
 rw [ah,this]
end
def mK (l:List Sess) (want:Int):List (Nat × LI):=[(2,{ σ:=Nat,F:=fun k=>([(1,one (.int (want))),(2,one (.fn 86 [] [])),(9,one (.fz (.nm .sess) (l))),(10,one (.int (l).length)),(11,one (.int k))],[]),J:=fun k=>k<=l.length/\ah Sess.client want (l.take k) = -1,μ:=fun k=>(l).length - k })]
def mV (l:List Opn) (want:Int):List (Nat × LI):=[(2,{ σ:=Nat,F:=fun k=>([(1,one (.int (want))),(2,one (.fn 115 [] [])),(9,one (.fz (.nm .opn) (l))),(10,one (.int (l).length)),(11,one (.int k))],[]),J:=fun k=>k<=l.length/\ah Opn.set want (l.take k) = -1,μ:=fun k=>(l).length - k })]
def mF (l:List Snap) (want:Int):List (Nat × LI):=[(2,{ σ:=Nat,F:=fun k=>([(1,one (.int (want))),(2,one (.fn 90 [] [])),(9,one (.fz (.nm .snap) (l))),(10,one (.int (l).length)),(11,one (.int k))],[]),J:=fun k=>k<=l.length/\ah Snap.id want (l.take k) = -1,μ:=fun k=>(l).length - k })]
theorem rR (l:List Sess) (want:Int) (r0:Int):cP aF yF (mK l want) Tryz.f85 [.c (.fz (.nm .sess) (l)),.c (.int (want)),.c (.fn 86 [] [])] [] [.c (.int (r0))]=((fun (q1:Int)=>(fun (q0:Nat)=>l.length*(32:Nat)<=(140737488355328:Nat)->I64 want->∃ (s0:Nat),(want=want/\l=l/\(↑l.length:Int)=(↑q0:Int)/\(0:Int)=(↑s0:Int))/\(s0<=q0/\ah Sess.client want (List.take s0 l) = -q1)/\∀ (s:Nat),s<=q0/\ah Sess.client want (List.take s l) = -q1->((↑s:Int)<(↑q0:Int)->(0:Int)<=(↑s:Int)/\(↑s:Int)<(↑l.length:Int)/\∀ (x:Sess),l[s]? = some x->I64 x.client->I64 x.seq->I64 x.last.code->I64 x.last.n->I64 x.client->(x.client=want->(↑s:Int)=r0)/\(¬x.client=want->I64 ((↑s:Int)+q1)/\∃ (s':Nat),(want=want/\l=l/\(↑q0:Int)=(↑q0:Int)/\(↑s:Int)+q1=(↑s':Int))/\(s' <= q0/\ah Sess.client want (List.take s' l) = -q1)/\q0 - s' < q0 - s))/\((↑q0:Int)<=(↑s:Int) -> -q1=r0)) l.length) (1:Int)):=by kernel_rfl
theorem ri (l:List Sess) (want:Int):Sat Tryz.prog (au aF) 85 [.c (.fz (.nm .sess) (l)),.c (.int (want)),.c (.fn 86 [] [])] [] ⟨[],[.c (.int ((ah Sess.client want l)))],none,false⟩:=by
 refine aQ kU (mK l want) Tryz.func85 (by decide) (by kernel_rfl) ?_
 rw [rR]
 (repeat' (first | with_reducible refine And.intro ?_ ?_ | with_reducible refine and_imp.2 ?_ | intro))
 all_goals try (first | (first | with_reducible rfl | with_reducible assumption | omega | (refine al ?_ ?_ <;> omega)) | exact (dR (key:=Sess.client)) | exact (cM (key:=Sess.client) (by with_reducible assumption) (by with_reducible assumption) (by with_reducible assumption)) | exact (dw (key:=Sess.client) (by with_reducible assumption) (by omega)) | exact (dk (key:=Sess.client) (by with_reducible assumption) (by with_reducible assumption) (by with_reducible assumption)))
 all_goals try (refine ⟨0,?_⟩; (repeat' (first | with_reducible refine And.intro ?_ ?_ | with_reducible refine and_imp.2 ?_ | intro)))
 all_goals try (first | (first | with_reducible rfl | with_reducible assumption | omega | (refine al ?_ ?_ <;> omega)) | exact (dR (key:=Sess.client)) | exact (cM (key:=Sess.client) (by with_reducible assumption) (by with_reducible assumption) (by with_reducible assumption)) | exact (dw (key:=Sess.client) (by with_reducible assumption) (by omega)) | exact (dk (key:=Sess.client) (by with_reducible assumption) (by with_reducible assumption) (by with_reducible assumption)))
 all_goals try (refine ⟨‹Nat› + 1,?_⟩; (repeat' (first | with_reducible refine And.intro ?_ ?_ | with_reducible refine and_imp.2 ?_ | intro)))
 all_goals (first | (first | with_reducible rfl | with_reducible assumption | omega | (refine al ?_ ?_ <;> omega)) | exact (dR (key:=Sess.client)) | exact (cM (key:=Sess.client) (by with_reducible assumption) (by with_reducible assumption) (by with_reducible assumption)) | exact (dw (key:=Sess.client) (by with_reducible assumption) (by omega)) | exact (dk (key:=Sess.client) (by with_reducible assumption) (by with_reducible assumption) (by with_reducible assumption)))
theorem rm (l:List Opn) (want:Int) (r0:Int):cP aF yF (mV l want) Tryz.f123 [.c (.fz (.nm .opn) (l)),.c (.int (want)),.c (.fn 115 [] [])] [] [.c (.int (r0))]=((fun (q1:Int)=>(fun (q0:Nat)=>l.length*(16:Nat)<=(140737488355328:Nat)->I64 want->∃ (s0:Nat),(want=want/\l=l/\(↑l.length:Int)=(↑q0:Int)/\(0:Int)=(↑s0:Int))/\(s0<=q0/\ah Opn.set want (List.take s0 l) = -q1)/\∀ (s:Nat),s<=q0/\ah Opn.set want (List.take s l) = -q1->((↑s:Int)<(↑q0:Int)->(0:Int)<=(↑s:Int)/\(↑s:Int)<(↑l.length:Int)/\∀ (x:Opn),l[s]? = some x->I64 x.set->I64 x.client->I64 x.set->(x.set=want->(↑s:Int)=r0)/\(¬x.set=want->I64 ((↑s:Int)+q1)/\∃ (s':Nat),(want=want/\l=l/\(↑q0:Int)=(↑q0:Int)/\(↑s:Int)+q1=(↑s':Int))/\(s' <= q0/\ah Opn.set want (List.take s' l) = -q1)/\q0 - s' < q0 - s))/\((↑q0:Int)<=(↑s:Int) -> -q1=r0)) l.length) (1:Int)):=by kernel_rfl
theorem qS (l:List Opn) (want:Int):Sat Tryz.prog (au aF) 123 [.c (.fz (.nm .opn) (l)),.c (.int (want)),.c (.fn 115 [] [])] [] ⟨[],[.c (.int ((ah Opn.set want l)))],none,false⟩:=by
 refine aQ kU (mV l want) Tryz.func123 (by decide) (by kernel_rfl) ?_
 rw [rm]
 (repeat' (first | with_reducible refine And.intro ?_ ?_ | with_reducible refine and_imp.2 ?_ | intro))
 all_goals try (first | (first | with_reducible rfl | with_reducible assumption | omega | (refine al ?_ ?_ <;> omega)) | exact (dR (key:=Opn.set)) | exact (cM (key:=Opn.set) (by with_reducible assumption) (by with_reducible assumption) (by with_reducible assumption)) | exact (dw (key:=Opn.set) (by with_reducible assumption) (by omega)) | exact (dk (key:=Opn.set) (by with_reducible assumption) (by with_reducible assumption) (by with_reducible assumption)))
 all_goals try (refine ⟨0,?_⟩; (repeat' (first | with_reducible refine And.intro ?_ ?_ | with_reducible refine and_imp.2 ?_ | intro)))
 all_goals try (first | (first | with_reducible rfl | with_reducible assumption | omega | (refine al ?_ ?_ <;> omega)) | exact (dR (key:=Opn.set)) | exact (cM (key:=Opn.set) (by with_reducible assumption) (by with_reducible assumption) (by with_reducible assumption)) | exact (dw (key:=Opn.set) (by with_reducible assumption) (by omega)) | exact (dk (key:=Opn.set) (by with_reducible assumption) (by with_reducible assumption) (by with_reducible assumption)))
 all_goals try (refine ⟨‹Nat› + 1,?_⟩; (repeat' (first | with_reducible refine And.intro ?_ ?_ | with_reducible refine and_imp.2 ?_ | intro)))
 all_goals (first | (first | with_reducible rfl | with_reducible assumption | omega | (refine al ?_ ?_ <;> omega)) | exact (dR (key:=Opn.set)) | exact (cM (key:=Opn.set) (by with_reducible assumption) (by with_reducible assumption) (by with_reducible assumption)) | exact (dw (key:=Opn.set) (by with_reducible assumption) (by omega)) | exact (dk (key:=Opn.set) (by with_reducible assumption) (by with_reducible assumption) (by with_reducible assumption)))
theorem q_ (l:List Snap) (want:Int) (r0:Int):cP aF yF (mF l want) Tryz.f89 [.c (.fz (.nm .snap) (l)),.c (.int (want)),.c (.fn 90 [] [])] [] [.c (.int (r0))]=((fun (q1:Int)=>(fun (q0:Nat)=>l.length*(64:Nat)<=(140737488355328:Nat)->I64 want->∃ (s0:Nat),(want=want/\l=l/\(↑l.length:Int)=(↑q0:Int)/\(0:Int)=(↑s0:Int))/\(s0<=q0/\ah Snap.id want (List.take s0 l) = -q1)/\∀ (s:Nat),s<=q0/\ah Snap.id want (List.take s l) = -q1->((↑s:Int)<(↑q0:Int)->(0:Int)<=(↑s:Int)/\(↑s:Int)<(↑l.length:Int)/\∀ (x:Snap),l[s]? = some x->I64 x.id->I64 x.set->x.chunks.length*(8:Nat)<=(140737488355328:Nat)->x.tag.b.length<=(140737488355328:Nat)->I64 x.id->(x.id=want->(↑s:Int)=r0)/\(¬x.id=want->I64 ((↑s:Int)+q1)/\∃ (s':Nat),(want=want/\l=l/\(↑q0:Int)=(↑q0:Int)/\(↑s:Int)+q1=(↑s':Int))/\(s' <= q0/\ah Snap.id want (List.take s' l) = -q1)/\q0 - s' < q0 - s))/\((↑q0:Int)<=(↑s:Int) -> -q1=r0)) l.length) (1:Int)):=by kernel_rfl
theorem qn (l:List Snap) (want:Int):Sat Tryz.prog (au aF) 89 [.c (.fz (.nm .snap) (l)),.c (.int (want)),.c (.fn 90 [] [])] [] ⟨[],[.c (.int ((ah Snap.id want l)))],none,false⟩:=by
 refine aQ kU (mF l want) Tryz.func89 (by decide) (by kernel_rfl) ?_
 rw [q_]
 (repeat' (first | with_reducible refine And.intro ?_ ?_ | with_reducible refine and_imp.2 ?_ | intro))
 all_goals try (first | (first | with_reducible rfl | with_reducible assumption | omega | (refine al ?_ ?_ <;> omega)) | exact (dR (key:=Snap.id)) | exact (cM (key:=Snap.id) (by with_reducible assumption) (by with_reducible assumption) (by with_reducible assumption)) | exact (dw (key:=Snap.id) (by with_reducible assumption) (by omega)) | exact (dk (key:=Snap.id) (by with_reducible assumption) (by with_reducible assumption) (by with_reducible assumption)))
 all_goals try (refine ⟨0,?_⟩; (repeat' (first | with_reducible refine And.intro ?_ ?_ | with_reducible refine and_imp.2 ?_ | intro)))
 all_goals try (first | (first | with_reducible rfl | with_reducible assumption | omega | (refine al ?_ ?_ <;> omega)) | exact (dR (key:=Snap.id)) | exact (cM (key:=Snap.id) (by with_reducible assumption) (by with_reducible assumption) (by with_reducible assumption)) | exact (dw (key:=Snap.id) (by with_reducible assumption) (by omega)) | exact (dk (key:=Snap.id) (by with_reducible assumption) (by with_reducible assumption) (by with_reducible assumption)))
 all_goals try (refine ⟨‹Nat› + 1,?_⟩; (repeat' (first | with_reducible refine And.intro ?_ ?_ | with_reducible refine and_imp.2 ?_ | intro)))
 all_goals (first | (first | with_reducible rfl | with_reducible assumption | omega | (refine al ?_ ?_ <;> omega)) | exact (dR (key:=Snap.id)) | exact (cM (key:=Snap.id) (by with_reducible assumption) (by with_reducible assumption) (by with_reducible assumption)) | exact (dw (key:=Snap.id) (by with_reducible assumption) (by omega)) | exact (dk (key:=Snap.id) (by with_reducible assumption) (by with_reducible assumption) (by with_reducible assumption)))
def rz:cw:=(bS 89 (bL (ai (kC (cL (.nm .snap))) (ai (kC cI) (ai (kC (mY 90 [] [])) aO))) aN fun (l,want,_,_) (_)=>⟨[],[.c (.int ((ah Snap.id want l)))],none,false⟩) (bS 123 (bL (ai (kC (cL (.nm .opn))) (ai (kC cI) (ai (kC (mY 115 [] [])) aO))) aN fun (l,want,_,_) (_)=>⟨[],[.c (.int ((ah Opn.set want l)))],none,false⟩) (bS 85 (bL (ai (kC (cL (.nm .sess))) (ai (kC cI) (ai (kC (mY 86 [] [])) aO))) aN fun (l,want,_,_) (_)=>⟨[],[.c (.int ((ah Sess.client want l)))],none,false⟩) yF)))
theorem fI:aT Tryz.prog (au aF) rz:=(aA (az (ab (av bN) (ab (av ax) (ab (av cm) ao))) aq fun (l,want,_,_) (_) _=>qn l want ) (aA (az (ab (av bN) (ab (av ax) (ab (av cm) ao))) aq fun (l,want,_,_) (_) _=>qS l want ) (aA (az (ab (av bN) (ab (av ax) (ab (av cm) ao))) aq fun (l,want,_,_) (_) _=>ri l want ) kU)))
end Go.Proofs.YtdggohppeeaipaaGreat
namespace Go.Proofs.YtdggohppeeaipaaGreat
open Go.RowKit
theorem Dd {n r m:Nat} (h:aV n+1=aV r+m) (hr:128<=r):aV n+1=aV (r / 128)+(m+1):=by
 have:=mW (n:=r) (by omega); omega
theorem Cc {n r m:Nat} (h:aV n+1=aV r+m) (hn:n<18446744073709551616):m<=10:=by
 have:=mi hn; have:=gD r; omega
theorem Az {n r m:Nat} (h:aV n+1=aV r+m) (hr:r<128):m=aV n:=by
 have:=gV hr; omega
section
variable {α:Type} {key:α->Int} {most:Int} {l:List α} {k:Nat} {x:α}
theorem iY (h:ak key most 0 (l.take k)=true) (hx:l[k]? = some x) (hb:bl (key x) (bf key 0 (l.take k)+1) most=true):ak key most 0 (l.take (k+1))=true:=
 gm h hx (by have:=kD hb; omega) (kD hb).2
theorem iP (hx:l[k]? = some x) (hb:bl (key x) (bf key 0 (l.take k)+1) most=false):false=ak key most 0 l:=
 (ku hx (by have:=Jg hb; omega)).symm
theorem iz (h:ak key most 0 (l.take k)=true) (hk:l.length<=k):true=ak key most 0 l:=(ga h hk).symm
theorem iX (hx:l[k]? = some x) (h0:0<=bf key 0 (l.take k)) (hb:bl (key x) (bf key 0 (l.take k)+1) most=true):0<=bf key 0 (l.take (k+1)):=by
 have:=kD hb; rw [<- bG hx]; omega
theorem iL (hx:l[k]? = some x) (hb:bl (key x) (bf key 0 (l.take k)+1) most=true) (hm:most<=1048576):bf key 0 (l.take (k+1))<=1048576:=by
 have:=kD hb; rw [<- bG hx]; omega
variable {p:α->Bool}
theorem jg (hx:l[k]? = some x) (hp:p x=false):false=l.all p:=(zx hx hp).symm
theorem iy (h:(l.take k).all p=true) (hk:l.length<=k):true=l.all p:=(Ah h hk).symm
end
def Dy (n:U64):List (Nat × LI):=[(2,{ σ:=Nat × Nat,F:=fun s=>([(0,one (.u64 s.1)),(3,one (.int s.2))],[]),J:=fun s=>s.1<18446744073709551616/\aV n.n+1=aV s.1+s.2,μ:=fun s=>s.1 })]
def kj (l:List Sess) (most:Int):List (Nat × LI):=[(3,{ σ:=Nat,F:=fun k=>([(1,one (.int (most))),(2,one (.fn 86 [] [])),(7,one (.int (bf Sess.client 0 (l.take k)))),(10,one (.fz (.nm .sess) (l))),(11,one (.int (l).length)),(12,one (.int k))],[]),J:=fun k=>k<=l.length/\ak Sess.client most 0 (l.take k)=true/\0<=bf Sess.client 0 (l.take k)/\bf Sess.client 0 (l.take k)<=1048576,μ:=fun k=>(l).length - k })]
def ko (l:List Opn) (most:Int):List (Nat × LI):=[(3,{ σ:=Nat,F:=fun k=>([(1,one (.int (most))),(2,one (.fn 115 [] [])),(7,one (.int (bf Opn.set 0 (l.take k)))),(10,one (.fz (.nm .opn) (l))),(11,one (.int (l).length)),(12,one (.int k))],[]),J:=fun k=>k<=l.length/\ak Opn.set most 0 (l.take k)=true/\0<=bf Opn.set 0 (l.take k)/\bf Opn.set 0 (l.take k)<=1048576,μ:=fun k=>(l).length - k })]
def kx (l:List Snap) (most:Int):List (Nat × LI):=[(3,{ σ:=Nat,F:=fun k=>([(1,one (.int (most))),(2,one (.fn 90 [] [])),(7,one (.int (bf Snap.id 0 (l.take k)))),(10,one (.fz (.nm .snap) (l))),(11,one (.int (l).length)),(12,one (.int k))],[]),J:=fun k=>k<=l.length/\ak Snap.id most 0 (l.take k)=true/\0<=bf Snap.id 0 (l.take k)/\bf Snap.id 0 (l.take k)<=1048576,μ:=fun k=>(l).length - k })]
theorem FZ (n:U64) (r0:Int):cP aF rz (Dy n) Tryz.f146 [.c (.u64 (n).n)] [] [.c (.int (r0))]=((fun (q0:Nat)=>n.n<(18446744073709551616:Nat)->∃ (s0:Nat × Nat),(n.n=s0.fst/\(1:Int)=(↑s0.snd:Int))/\(s0.fst<(18446744073709551616:Nat)/\q0=aV s0.fst+s0.snd)/\∀ (s:Nat × Nat),s.fst<(18446744073709551616:Nat)/\q0=aV s.fst+s.snd->((↑(128:Nat):Int)<=(↑s.fst:Int)->(7:Nat)<(64:Nat)/\I64 ((↑s.snd:Int)+(1:Int))/\∃ (s':Nat × Nat),(s.fst / (2:Nat) ^ (7:Nat)=s'.fst/\(↑s.snd:Int)+(1:Int)=(↑s'.snd:Int))/\(s'.fst<(18446744073709551616:Nat)/\q0=aV s'.fst+s'.snd)/\s'.fst<s.fst)/\((↑s.fst:Int)<(↑(128:Nat):Int)->(↑s.snd:Int)=r0)) (aV n.n+(1:Nat))):=by kernel_rfl
theorem EE (n:U64):Sat Tryz.prog (au aF) 146 [.c (.u64 (n).n)] [] ⟨[],[.c (.int (((aV n.n:Int))))],none,false⟩:=by
 refine aQ fI (Dy n) Tryz.func146 (by decide) (by kernel_rfl) ?_
 rw [FZ]
 intro hn
 refine ⟨(n.n,1),⟨rfl,rfl⟩,⟨hn,rfl⟩,fun s hs=>⟨fun h=>?_,fun h=>?_⟩⟩
 ·have h2:=Dd hs.2 (by omega)
  have h3:=Cc hs.2 hn
  exact ⟨by omega,by constructor <;> omega,(s.1 / 128,s.2+1),⟨rfl,by simp⟩,⟨by show s.1 / 128<_; omega,h2⟩,by show s.1 / 128<s.1; omega⟩
 ·exact congrArg Int.ofNat (Az hs.2 (by omega))
theorem pK (l:List Sess) (most:Int) (r0:Bool):cP aF rz (kj l most) Tryz.f111 [.c (.fz (.nm .sess) (l)),.c (.int (most)),.c (.fn 86 [] [])] [] [.c (.bool (.atom (r0)))]=((fun (q1:Nat)=>(fun (q0:Int)=>l.length*(32:Nat)<=(140737488355328:Nat)->I64 most->∃ (s0:Nat),(fun (q2:Int)=>(most=most/\q0=q2/\l=l/\(↑l.length:Int)=(↑q1:Int)/\q0=(↑s0:Int))/\(s0<=q1/\ak Sess.client most q0 (List.take s0 l)=true/\q0<=q2/\q2<=(1048576:Int))/\∀ (s:Nat),(fun (q3:Int)=>s<=q1/\ak Sess.client most q0 (List.take s l)=true/\q0<=q3/\q3<=(1048576:Int)->((↑s:Int)<(↑q1:Int)->q0<=(↑s:Int)/\(↑s:Int)<(↑l.length:Int)/\∀ (x:Sess),(fun (q4:Bool)=>l[s]? = some x->I64 x.client->I64 x.seq->I64 x.last.code->I64 x.last.n->I64 x.client->I64 (q3+(1:Int))/\(q4=false->false=r0)/\(q4=true->I64 x.client->I64 ((↑s:Int)+(1:Int))/\∃ (s':Nat),(fun (q5:Int)=>(most=most/\x.client=q5/\l=l/\(↑q1:Int)=(↑q1:Int)/\(↑s:Int)+(1:Int)=(↑s':Int))/\(s' <= q1/\ak Sess.client most q0 (List.take s' l)=true/\q0<=q5/\q5<=(1048576:Int))/\q1 - s' < q1 - s) (bf Sess.client q0 (List.take s' l)))) (bl x.client (q3+(1:Int)) most))/\((↑q1:Int)<=(↑s:Int)->true=r0)) (bf Sess.client q0 (List.take s l))) (bf Sess.client q0 (List.take s0 l))) (0:Int)) l.length):=by kernel_rfl
theorem ot (l:List Sess) (most:Int) (h0:most<=1048576):Sat Tryz.prog (au aF) 111 [.c (.fz (.nm .sess) (l)),.c (.int (most)),.c (.fn 86 [] [])] [] ⟨[most<=1048576],[.c (.bool (.atom ((ak Sess.client most 0 l))))],none,false⟩:=by
 refine aQ fI (kj l most) Tryz.func111 (by decide) (by kernel_rfl) ?_
 rw [pK]
 (repeat' (first | with_reducible refine And.intro ?_ ?_ | with_reducible refine and_imp.2 ?_ | intro))
 all_goals try (first | (first | with_reducible rfl | with_reducible assumption | omega | (refine al ?_ ?_ <;> omega)) | exact (iY (key:=Sess.client) (by with_reducible assumption) (by with_reducible assumption) (by with_reducible assumption)) | exact (iP (key:=Sess.client) (by with_reducible assumption) (by with_reducible assumption)) | exact (iz (key:=Sess.client) (by with_reducible assumption) (by omega)) | exact (bG (key:=Sess.client) (by with_reducible assumption)) | exact (iX (key:=Sess.client) (by with_reducible assumption) (by with_reducible assumption) (by with_reducible assumption)) | exact (iL (key:=Sess.client) (by with_reducible assumption) (by with_reducible assumption) (by with_reducible assumption)) | exact rfl | exact Int.le_refl _ | exact (show (0:Int)<=1048576 by omega))
 all_goals try (refine ⟨0,?_⟩; (repeat' (first | with_reducible refine And.intro ?_ ?_ | with_reducible refine and_imp.2 ?_ | intro)))
 all_goals try (first | (first | with_reducible rfl | with_reducible assumption | omega | (refine al ?_ ?_ <;> omega)) | exact (iY (key:=Sess.client) (by with_reducible assumption) (by with_reducible assumption) (by with_reducible assumption)) | exact (iP (key:=Sess.client) (by with_reducible assumption) (by with_reducible assumption)) | exact (iz (key:=Sess.client) (by with_reducible assumption) (by omega)) | exact (bG (key:=Sess.client) (by with_reducible assumption)) | exact (iX (key:=Sess.client) (by with_reducible assumption) (by with_reducible assumption) (by with_reducible assumption)) | exact (iL (key:=Sess.client) (by with_reducible assumption) (by with_reducible assumption) (by with_reducible assumption)) | exact rfl | exact Int.le_refl _ | exact (show (0:Int)<=1048576 by omega))
 all_goals try (refine ⟨‹Nat› + 1,?_⟩; (repeat' (first | with_reducible refine And.intro ?_ ?_ | with_reducible refine and_imp.2 ?_ | intro)))
 all_goals (first | (first | with_reducible rfl | with_reducible assumption | omega | (refine al ?_ ?_ <;> omega)) | exact (iY (key:=Sess.client) (by with_reducible assumption) (by with_reducible assumption) (by with_reducible assumption)) | exact (iP (key:=Sess.client) (by with_reducible assumption) (by with_reducible assumption)) | exact (iz (key:=Sess.client) (by with_reducible assumption) (by omega)) | exact (bG (key:=Sess.client) (by with_reducible assumption)) | exact (iX (key:=Sess.client) (by with_reducible assumption) (by with_reducible assumption) (by with_reducible assumption)) | exact (iL (key:=Sess.client) (by with_reducible assumption) (by with_reducible assumption) (by with_reducible assumption)) | exact rfl | exact Int.le_refl _ | exact (show (0:Int)<=1048576 by omega))
theorem oq (l:List Opn) (most:Int) (r0:Bool):cP aF rz (ko l most) Tryz.f114 [.c (.fz (.nm .opn) (l)),.c (.int (most)),.c (.fn 115 [] [])] [] [.c (.bool (.atom (r0)))]=((fun (q1:Nat)=>(fun (q0:Int)=>l.length*(16:Nat)<=(140737488355328:Nat)->I64 most->∃ (s0:Nat),(fun (q2:Int)=>(most=most/\q0=q2/\l=l/\(↑l.length:Int)=(↑q1:Int)/\q0=(↑s0:Int))/\(s0<=q1/\ak Opn.set most q0 (List.take s0 l)=true/\q0<=q2/\q2<=(1048576:Int))/\∀ (s:Nat),(fun (q3:Int)=>s<=q1/\ak Opn.set most q0 (List.take s l)=true/\q0<=q3/\q3<=(1048576:Int)->((↑s:Int)<(↑q1:Int)->q0<=(↑s:Int)/\(↑s:Int)<(↑l.length:Int)/\∀ (x:Opn),(fun (q4:Bool)=>l[s]? = some x->I64 x.set->I64 x.client->I64 x.set->I64 (q3+(1:Int))/\(q4=false->false=r0)/\(q4=true->I64 x.set->I64 ((↑s:Int)+(1:Int))/\∃ (s':Nat),(fun (q5:Int)=>(most=most/\x.set=q5/\l=l/\(↑q1:Int)=(↑q1:Int)/\(↑s:Int)+(1:Int)=(↑s':Int))/\(s' <= q1/\ak Opn.set most q0 (List.take s' l)=true/\q0<=q5/\q5<=(1048576:Int))/\q1 - s' < q1 - s) (bf Opn.set q0 (List.take s' l)))) (bl x.set (q3+(1:Int)) most))/\((↑q1:Int)<=(↑s:Int)->true=r0)) (bf Opn.set q0 (List.take s l))) (bf Opn.set q0 (List.take s0 l))) (0:Int)) l.length):=by kernel_rfl
theorem pq (l:List Opn) (most:Int) (h0:most<=1048576):Sat Tryz.prog (au aF) 114 [.c (.fz (.nm .opn) (l)),.c (.int (most)),.c (.fn 115 [] [])] [] ⟨[most<=1048576],[.c (.bool (.atom ((ak Opn.set most 0 l))))],none,false⟩:=by
 refine aQ fI (ko l most) Tryz.func114 (by decide) (by kernel_rfl) ?_
 rw [oq]
 (repeat' (first | with_reducible refine And.intro ?_ ?_ | with_reducible refine and_imp.2 ?_ | intro))
 all_goals try (first | (first | with_reducible rfl | with_reducible assumption | omega | (refine al ?_ ?_ <;> omega)) | exact (iY (key:=Opn.set) (by with_reducible assumption) (by with_reducible assumption) (by with_reducible assumption)) | exact (iP (key:=Opn.set) (by with_reducible assumption) (by with_reducible assumption)) | exact (iz (key:=Opn.set) (by with_reducible assumption) (by omega)) | exact (bG (key:=Opn.set) (by with_reducible assumption)) | exact (iX (key:=Opn.set) (by with_reducible assumption) (by with_reducible assumption) (by with_reducible assumption)) | exact (iL (key:=Opn.set) (by with_reducible assumption) (by with_reducible assumption) (by with_reducible assumption)) | exact rfl | exact Int.le_refl _ | exact (show (0:Int)<=1048576 by omega))
 all_goals try (refine ⟨0,?_⟩; (repeat' (first | with_reducible refine And.intro ?_ ?_ | with_reducible refine and_imp.2 ?_ | intro)))
 all_goals try (first | (first | with_reducible rfl | with_reducible assumption | omega | (refine al ?_ ?_ <;> omega)) | exact (iY (key:=Opn.set) (by with_reducible assumption) (by with_reducible assumption) (by with_reducible assumption)) | exact (iP (key:=Opn.set) (by with_reducible assumption) (by with_reducible assumption)) | exact (iz (key:=Opn.set) (by with_reducible assumption) (by omega)) | exact (bG (key:=Opn.set) (by with_reducible assumption)) | exact (iX (key:=Opn.set) (by with_reducible assumption) (by with_reducible assumption) (by with_reducible assumption)) | exact (iL (key:=Opn.set) (by with_reducible assumption) (by with_reducible assumption) (by with_reducible assumption)) | exact rfl | exact Int.le_refl _ | exact (show (0:Int)<=1048576 by omega))
 all_goals try (refine ⟨‹Nat› + 1,?_⟩; (repeat' (first | with_reducible refine And.intro ?_ ?_ | with_reducible refine and_imp.2 ?_ | intro)))
 all_goals (first | (first | with_reducible rfl | with_reducible assumption | omega | (refine al ?_ ?_ <;> omega)) | exact (iY (key:=Opn.set) (by with_reducible assumption) (by with_reducible assumption) (by with_reducible assumption)) | exact (iP (key:=Opn.set) (by with_reducible assumption) (by with_reducible assumption)) | exact (iz (key:=Opn.set) (by with_reducible assumption) (by omega)) | exact (bG (key:=Opn.set) (by with_reducible assumption)) | exact (iX (key:=Opn.set) (by with_reducible assumption) (by with_reducible assumption) (by with_reducible assumption)) | exact (iL (key:=Opn.set) (by with_reducible assumption) (by with_reducible assumption) (by with_reducible assumption)) | exact rfl | exact Int.le_refl _ | exact (show (0:Int)<=1048576 by omega))
theorem pC (l:List Snap) (most:Int) (r0:Bool):cP aF rz (kx l most) Tryz.f132 [.c (.fz (.nm .snap) (l)),.c (.int (most)),.c (.fn 90 [] [])] [] [.c (.bool (.atom (r0)))]=((fun (q1:Nat)=>(fun (q0:Int)=>l.length*(64:Nat)<=(140737488355328:Nat)->I64 most->∃ (s0:Nat),(fun (q2:Int)=>(most=most/\q0=q2/\l=l/\(↑l.length:Int)=(↑q1:Int)/\q0=(↑s0:Int))/\(s0<=q1/\ak Snap.id most q0 (List.take s0 l)=true/\q0<=q2/\q2<=(1048576:Int))/\∀ (s:Nat),(fun (q3:Int)=>s<=q1/\ak Snap.id most q0 (List.take s l)=true/\q0<=q3/\q3<=(1048576:Int)->((↑s:Int)<(↑q1:Int)->q0<=(↑s:Int)/\(↑s:Int)<(↑l.length:Int)/\∀ (x:Snap),(fun (q4:Int)=>l[s]? = some x->I64 x.id->I64 x.set->x.chunks.length*(8:Nat)<=(140737488355328:Nat)->x.tag.b.length<=(140737488355328:Nat)->I64 x.id->I64 q4/\(bl x.id q4 most=false->false=r0)/\(bl x.id q4 most=true->I64 x.id->I64 ((↑s:Int)+(1:Int))/\∃ (s':Nat),(fun (q5:Int)=>(most=most/\x.id=q5/\l=l/\(↑q1:Int)=(↑q1:Int)/\(↑s:Int)+(1:Int)=(↑s':Int))/\(s' <= q1/\ak Snap.id most q0 (List.take s' l)=true/\q0<=q5/\q5<=(1048576:Int))/\q1 - s' < q1 - s) (bf Snap.id q0 (List.take s' l)))) (q3+(1:Int)))/\((↑q1:Int)<=(↑s:Int)->true=r0)) (bf Snap.id q0 (List.take s l))) (bf Snap.id q0 (List.take s0 l))) (0:Int)) l.length):=by kernel_rfl
theorem pe (l:List Snap) (most:Int) (h0:most<=1048576):Sat Tryz.prog (au aF) 132 [.c (.fz (.nm .snap) (l)),.c (.int (most)),.c (.fn 90 [] [])] [] ⟨[most<=1048576],[.c (.bool (.atom ((ak Snap.id most 0 l))))],none,false⟩:=by
 refine aQ fI (kx l most) Tryz.func132 (by decide) (by kernel_rfl) ?_
 rw [pC]
 (repeat' (first | with_reducible refine And.intro ?_ ?_ | with_reducible refine and_imp.2 ?_ | intro))
 all_goals try (first | (first | with_reducible rfl | with_reducible assumption | omega | (refine al ?_ ?_ <;> omega)) | exact (iY (key:=Snap.id) (by with_reducible assumption) (by with_reducible assumption) (by with_reducible assumption)) | exact (iP (key:=Snap.id) (by with_reducible assumption) (by with_reducible assumption)) | exact (iz (key:=Snap.id) (by with_reducible assumption) (by omega)) | exact (bG (key:=Snap.id) (by with_reducible assumption)) | exact (iX (key:=Snap.id) (by with_reducible assumption) (by with_reducible assumption) (by with_reducible assumption)) | exact (iL (key:=Snap.id) (by with_reducible assumption) (by with_reducible assumption) (by with_reducible assumption)) | exact rfl | exact Int.le_refl _ | exact (show (0:Int)<=1048576 by omega))
 all_goals try (refine ⟨0,?_⟩; (repeat' (first | with_reducible refine And.intro ?_ ?_ | with_reducible refine and_imp.2 ?_ | intro)))
 all_goals try (first | (first | with_reducible rfl | with_reducible assumption | omega | (refine al ?_ ?_ <;> omega)) | exact (iY (key:=Snap.id) (by with_reducible assumption) (by with_reducible assumption) (by with_reducible assumption)) | exact (iP (key:=Snap.id) (by with_reducible assumption) (by with_reducible assumption)) | exact (iz (key:=Snap.id) (by with_reducible assumption) (by omega)) | exact (bG (key:=Snap.id) (by with_reducible assumption)) | exact (iX (key:=Snap.id) (by with_reducible assumption) (by with_reducible assumption) (by with_reducible assumption)) | exact (iL (key:=Snap.id) (by with_reducible assumption) (by with_reducible assumption) (by with_reducible assumption)) | exact rfl | exact Int.le_refl _ | exact (show (0:Int)<=1048576 by omega))
 all_goals try (refine ⟨‹Nat› + 1,?_⟩; (repeat' (first | with_reducible refine And.intro ?_ ?_ | with_reducible refine and_imp.2 ?_ | intro)))
 all_goals (first | (first | with_reducible rfl | with_reducible assumption | omega | (refine al ?_ ?_ <;> omega)) | exact (iY (key:=Snap.id) (by with_reducible assumption) (by with_reducible assumption) (by with_reducible assumption)) | exact (iP (key:=Snap.id) (by with_reducible assumption) (by with_reducible assumption)) | exact (iz (key:=Snap.id) (by with_reducible assumption) (by omega)) | exact (bG (key:=Snap.id) (by with_reducible assumption)) | exact (iX (key:=Snap.id) (by with_reducible assumption) (by with_reducible assumption) (by with_reducible assumption)) | exact (iL (key:=Snap.id) (by with_reducible assumption) (by with_reducible assumption) (by with_reducible assumption)) | exact rfl | exact Int.le_refl _ | exact (show (0:Int)<=1048576 by omega))
theorem Es (x:Sess) (r0:Bool):cP aF rz [] Tryz.f113 [.agg (cellsOf (.nm .sess) x)] [] [.c (.bool (.atom (r0)))]=(I64 x.client->I64 x.seq->I64 x.last.code->I64 x.last.n->(bl x.seq (0:Int) (1048576:Int) && bl x.last.code (0:Int) (99:Int) && bl x.last.n (0:Int) (1048576:Int))=r0):=by kernel_rfl
theorem Ew (x:Sess):Sat Tryz.prog (au aF) 113 [.agg (cellsOf (.nm .sess) x)] [] ⟨[],[.c (.bool (.atom ((bM x))))],none,false⟩:=by
 refine aQ fI [] Tryz.func113 (by decide) (by kernel_rfl) ?_
 rw [Es]
 grind [bM,bl]
theorem Fj (x:Opn) (r0:Bool):cP aF rz [] Tryz.f117 [.agg (cellsOf (.nm .opn) x)] [] [.c (.bool (.atom (r0)))]=(I64 x.set->I64 x.client->bl x.client (1:Int) (8:Int)=r0):=by kernel_rfl
theorem Ea (x:Opn):Sat Tryz.prog (au aF) 117 [.agg (cellsOf (.nm .opn) x)] [] ⟨[],[.c (.bool (.atom ((bR x))))],none,false⟩:=by
 refine aQ fI [] Tryz.func117 (by decide) (by kernel_rfl) ?_
 rw [Fj]
 grind [bR,bl]
def oX:cw:=(bS 117 (bL (ai (kT (.nm .opn)) aO) aN fun (x,_) (_)=>⟨[],[.c (.bool (.atom ((bR x))))],none,false⟩) (bS 113 (bL (ai (kT (.nm .sess)) aO) aN fun (x,_) (_)=>⟨[],[.c (.bool (.atom ((bM x))))],none,false⟩) (bS 132 (bL (ai (kC (cL (.nm .snap))) (ai (kC cI) (ai (kC (mY 90 [] [])) aO))) aN fun (l,most,_,_) (_)=>⟨[most<=1048576],[.c (.bool (.atom ((ak Snap.id most 0 l))))],none,false⟩) (bS 114 (bL (ai (kC (cL (.nm .opn))) (ai (kC cI) (ai (kC (mY 115 [] [])) aO))) aN fun (l,most,_,_) (_)=>⟨[most<=1048576],[.c (.bool (.atom ((ak Opn.set most 0 l))))],none,false⟩) (bS 111 (bL (ai (kC (cL (.nm .sess))) (ai (kC cI) (ai (kC (mY 86 [] [])) aO))) aN fun (l,most,_,_) (_)=>⟨[most<=1048576],[.c (.bool (.atom ((ak Sess.client most 0 l))))],none,false⟩) (bS 146 (bL (ai (kC cU) aO) aN fun (n,_) (_)=>⟨[],[.c (.int (((aV n.n:Int))))],none,false⟩) rz))))))
theorem eD:aT Tryz.prog (au aF) oX:=(aA (az (ab bI ao) aq fun (x,_) (_) _=>Ea x ) (aA (az (ab bI ao) aq fun (x,_) (_) _=>Ew x ) (aA (az (ab (av bN) (ab (av ax) (ab (av cm) ao))) aq fun (l,most,_,_) (_) hp=>pe l most (fb hp)) (aA (az (ab (av bN) (ab (av ax) (ab (av cm) ao))) aq fun (l,most,_,_) (_) hp=>pq l most (fb hp)) (aA (az (ab (av bN) (ab (av ax) (ab (av cm) ao))) aq fun (l,most,_,_) (_) hp=>ot l most (fb hp)) (aA (az (ab (av DR) ao) aq fun (n,_) (_) _=>EE n ) fI))))))
end Go.Proofs.YtdggohppeeaipaaGreat
namespace Go.Proofs.YtdggohppeeaipaaGreat
open Go.RowKit
theorem sT {n k:Nat} (h:(k:Int)<aV n):(dv n k).set k (UInt8.ofNat (n / 128 ^ k) ||| UInt8.ofNat 128)=dv n (k+1):=sm (by omega)
theorem oS {n k:Nat} (h1:k<=aV n) (h2:(aV n:Int)<=(k:Int)):(dv n k).set ((aV n:Int) - 1).toNat ((dv n k).getD ((aV n:Int) - 1).toNat (dflt Sh.u8) &&& UInt8.ofNat 127)=lH n:=by
 have e:k=aV n:=by omega
 have e2:((aV n:Int) - 1).toNat=aV n - 1:=by omega
 have hl:=eO (n:=n) (Nat.le_refl _)
 have hp:=gD n
 subst e
 have hlt:aV n - 1<(dv n (aV n)).length:=by omega
 rw [e2,List.getD_eq_getElem?_getD,List.getElem?_eq_getElem hlt,Option.getD_some,tu (List.getElem?_eq_getElem hlt)]
 rfl
def Hk (n:U64):List (Nat × LI):=[(4,{ σ:=Nat,F:=fun k=>([(0,one (.u64 (n.n / 128 ^ k))),(3,one (.int (aV n.n))),(4,one (.own 0)),(10,one (.int (aV n.n))),(11,one (.int k))],[.row 5 .u8 ((dv n.n k))]),J:=fun k=>k<=aV n.n,μ:=fun k=>aV n.n - k })]
def pR (l:List Sess):List (Nat × LI):=[(2,{ σ:=Nat,F:=fun k=>([(1,one (.fn 113 [] [])),(7,one (.fz (.nm .sess) (l))),(8,one (.int (l).length)),(9,one (.int k))],[]),J:=fun k=>k<=l.length/\(l.take k).all (bM)=true,μ:=fun k=>(l).length - k })]
def rU (l:List Opn):List (Nat × LI):=[(2,{ σ:=Nat,F:=fun k=>([(1,one (.fn 117 [] [])),(7,one (.fz (.nm .opn) (l))),(8,one (.int (l).length)),(9,one (.int k))],[]),J:=fun k=>k<=l.length/\(l.take k).all (bR)=true,μ:=fun k=>(l).length - k })]
theorem GX (n:U64) (r0:List UInt8):sa aF oX (Hk n) Tryz.f143 [.c (.u64 (n).n)] [] [.c (.own 0)] [.row 5 .u8 (r0)]=((fun (q2:Nat)=>(fun (q1:Int)=>(fun (q0:Int)=>n.n<(18446744073709551616:Nat)->I64 q0->(0:Int)<=q0/\q0*(↑(1:Nat):Int)<=(140737488355328:Int)/\q0=q0/\∃ (s0:Nat),(fun (q3:Int)=>(n.n=n.n / (128:Nat) ^ s0/\q0=q0/\q0=q0/\(0:Int)=(↑s0:Int)/\List.replicate q2 (dflt Sh.u8)=dv n.n s0)/\s0<=q2/\∀ (s:Nat),(fun (q4:List UInt8)=>s<=q2->((↑s:Int)<q0->(0:Int)<=(↑s:Int)/\(↑s:Int)<(↑q4.length:Int)/\(7:Nat)<(64:Nat)/\I64 ((↑s:Int)+q1)/\∃ (s':Nat),(n.n / (128:Nat) ^ s / (2:Nat) ^ (7:Nat)=n.n / (128:Nat) ^ s' /\ q0=q0/\q0=q0/\(↑s:Int)+q1=(↑s':Int)/\q4.set s (UInt8.ofNat (n.n / (128:Nat) ^ s) ||| UInt8.ofNat (128:Nat))=dv n.n s')/\s' <= q2/\q2 - s' < q2 - s)/\(q0<=(↑s:Int)->I64 q3/\(0:Int)<=q3/\q3<(↑q4.length:Int)/\(0:Int)<=q3/\q3<(↑q4.length:Int)/\q4.set q3.toNat (q4.getD q3.toNat (dflt Sh.u8) &&& UInt8.ofNat (127:Nat))=r0)) (dv n.n s)) (q0 - q1)) (↑q2:Int)) (1:Int)) (aV n.n)):=by kernel_rfl
theorem GG (n:U64):Sat Tryz.prog (au aF) 143 [.c (.u64 (n).n)] [] ⟨[],[.c (.own 0)],some ([.row 5 .u8 ((lH n.n))]),true⟩:=by
 refine eg eD (Hk n) Tryz.func143 (by decide) (by kernel_rfl) ?_
 rw [GX]
 intro hn
 have h1:=gD n.n
 have h10:=mi hn
 (repeat' (first | with_reducible refine And.intro ?_ ?_ | with_reducible refine and_imp.2 ?_ | intro))
 all_goals try (first | (first | with_reducible rfl | with_reducible assumption | omega | (refine al ?_ ?_ <;> omega)) | exact (gT n.n) | exact (sT (by omega)) | exact (oS (by omega) (by omega)) | exact div_pow | exact (by rw [Nat.pow_zero,Nat.div_one]) | exact (by rw [eO (by omega)]; omega))
 all_goals try (refine ⟨0,?_⟩; (repeat' (first | with_reducible refine And.intro ?_ ?_ | with_reducible refine and_imp.2 ?_ | intro)))
 all_goals try (first | (first | with_reducible rfl | with_reducible assumption | omega | (refine al ?_ ?_ <;> omega)) | exact (gT n.n) | exact (sT (by omega)) | exact (oS (by omega) (by omega)) | exact div_pow | exact (by rw [Nat.pow_zero,Nat.div_one]) | exact (by rw [eO (by omega)]; omega))
 all_goals try (refine ⟨‹Nat› + 1,?_⟩; (repeat' (first | with_reducible refine And.intro ?_ ?_ | with_reducible refine and_imp.2 ?_ | intro)))
 all_goals (first | (first | with_reducible rfl | with_reducible assumption | omega | (refine al ?_ ?_ <;> omega)) | exact (gT n.n) | exact (sT (by omega)) | exact (oS (by omega) (by omega)) | exact div_pow | exact (by rw [Nat.pow_zero,Nat.div_one]) | exact (by rw [eO (by omega)]; omega))
theorem vS (l:List Sess) (r0:Bool):cP aF oX (pR l) Tryz.f112 [.c (.fz (.nm .sess) (l)),.c (.fn 113 [] [])] [] [.c (.bool (.atom (r0)))]=((fun (q0:Nat)=>l.length*(32:Nat)<=(140737488355328:Nat)->∃ (s0:Nat),(l=l/\(↑l.length:Int)=(↑q0:Int)/\(0:Int)=(↑s0:Int))/\(s0<=q0/\(List.take s0 l).all bM=true)/\∀ (s:Nat),s<=q0/\(List.take s l).all bM=true->((↑s:Int)<(↑q0:Int)->(0:Int)<=(↑s:Int)/\(↑s:Int)<(↑l.length:Int)/\∀ (x:Sess),l[s]? = some x->I64 x.client->I64 x.seq->I64 x.last.code->I64 x.last.n->(bM x=false->false=r0)/\(bM x=true->I64 ((↑s:Int)+(1:Int))/\∃ (s':Nat),(l=l/\(↑q0:Int)=(↑q0:Int)/\(↑s:Int)+(1:Int)=(↑s':Int))/\(s' <= q0/\(List.take s' l).all bM=true)/\q0 - s' < q0 - s))/\((↑q0:Int)<=(↑s:Int)->true=r0)) l.length):=by kernel_rfl
theorem wa (l:List Sess):Sat Tryz.prog (au aF) 112 [.c (.fz (.nm .sess) (l)),.c (.fn 113 [] [])] [] ⟨[],[.c (.bool (.atom ((l.all (bM)))))],none,false⟩:=by
 refine aQ eD (pR l) Tryz.func112 (by decide) (by kernel_rfl) ?_
 rw [vS]
 (repeat' (first | with_reducible refine And.intro ?_ ?_ | with_reducible refine and_imp.2 ?_ | intro))
 all_goals try (first | (first | with_reducible rfl | with_reducible assumption | omega | (refine al ?_ ?_ <;> omega)) | exact (dr (p:=bM) (by with_reducible assumption) (by with_reducible assumption) (by with_reducible assumption)) | exact (jg (p:=bM) (by with_reducible assumption) (by with_reducible assumption)) | exact (iy (p:=bM) (by with_reducible assumption) (by omega)) | exact rfl)
 all_goals try (refine ⟨0,?_⟩; (repeat' (first | with_reducible refine And.intro ?_ ?_ | with_reducible refine and_imp.2 ?_ | intro)))
 all_goals try (first | (first | with_reducible rfl | with_reducible assumption | omega | (refine al ?_ ?_ <;> omega)) | exact (dr (p:=bM) (by with_reducible assumption) (by with_reducible assumption) (by with_reducible assumption)) | exact (jg (p:=bM) (by with_reducible assumption) (by with_reducible assumption)) | exact (iy (p:=bM) (by with_reducible assumption) (by omega)) | exact rfl)
 all_goals try (refine ⟨‹Nat› + 1,?_⟩; (repeat' (first | with_reducible refine And.intro ?_ ?_ | with_reducible refine and_imp.2 ?_ | intro)))
 all_goals (first | (first | with_reducible rfl | with_reducible assumption | omega | (refine al ?_ ?_ <;> omega)) | exact (dr (p:=bM) (by with_reducible assumption) (by with_reducible assumption) (by with_reducible assumption)) | exact (jg (p:=bM) (by with_reducible assumption) (by with_reducible assumption)) | exact (iy (p:=bM) (by with_reducible assumption) (by omega)) | exact rfl)
theorem wk (l:List Opn) (r0:Bool):cP aF oX (rU l) Tryz.f116 [.c (.fz (.nm .opn) (l)),.c (.fn 117 [] [])] [] [.c (.bool (.atom (r0)))]=((fun (q0:Nat)=>l.length*(16:Nat)<=(140737488355328:Nat)->∃ (s0:Nat),(l=l/\(↑l.length:Int)=(↑q0:Int)/\(0:Int)=(↑s0:Int))/\(s0<=q0/\(List.take s0 l).all bR=true)/\∀ (s:Nat),s<=q0/\(List.take s l).all bR=true->((↑s:Int)<(↑q0:Int)->(0:Int)<=(↑s:Int)/\(↑s:Int)<(↑l.length:Int)/\∀ (x:Opn),l[s]? = some x->I64 x.set->I64 x.client->(bR x=false->false=r0)/\(bR x=true->I64 ((↑s:Int)+(1:Int))/\∃ (s':Nat),(l=l/\(↑q0:Int)=(↑q0:Int)/\(↑s:Int)+(1:Int)=(↑s':Int))/\(s' <= q0/\(List.take s' l).all bR=true)/\q0 - s' < q0 - s))/\((↑q0:Int)<=(↑s:Int)->true=r0)) l.length):=by kernel_rfl
theorem vN (l:List Opn):Sat Tryz.prog (au aF) 116 [.c (.fz (.nm .opn) (l)),.c (.fn 117 [] [])] [] ⟨[],[.c (.bool (.atom ((l.all (bR)))))],none,false⟩:=by
 refine aQ eD (rU l) Tryz.func116 (by decide) (by kernel_rfl) ?_
 rw [wk]
 (repeat' (first | with_reducible refine And.intro ?_ ?_ | with_reducible refine and_imp.2 ?_ | intro))
 all_goals try (first | (first | with_reducible rfl | with_reducible assumption | omega | (refine al ?_ ?_ <;> omega)) | exact (dr (p:=bR) (by with_reducible assumption) (by with_reducible assumption) (by with_reducible assumption)) | exact (jg (p:=bR) (by with_reducible assumption) (by with_reducible assumption)) | exact (iy (p:=bR) (by with_reducible assumption) (by omega)) | exact rfl)
 all_goals try (refine ⟨0,?_⟩; (repeat' (first | with_reducible refine And.intro ?_ ?_ | with_reducible refine and_imp.2 ?_ | intro)))
 all_goals try (first | (first | with_reducible rfl | with_reducible assumption | omega | (refine al ?_ ?_ <;> omega)) | exact (dr (p:=bR) (by with_reducible assumption) (by with_reducible assumption) (by with_reducible assumption)) | exact (jg (p:=bR) (by with_reducible assumption) (by with_reducible assumption)) | exact (iy (p:=bR) (by with_reducible assumption) (by omega)) | exact rfl)
 all_goals try (refine ⟨‹Nat› + 1,?_⟩; (repeat' (first | with_reducible refine And.intro ?_ ?_ | with_reducible refine and_imp.2 ?_ | intro)))
 all_goals (first | (first | with_reducible rfl | with_reducible assumption | omega | (refine al ?_ ?_ <;> omega)) | exact (dr (p:=bR) (by with_reducible assumption) (by with_reducible assumption) (by with_reducible assumption)) | exact (jg (p:=bR) (by with_reducible assumption) (by with_reducible assumption)) | exact (iy (p:=bR) (by with_reducible assumption) (by omega)) | exact rfl)
theorem oz (l:List Sess) (r0:List Sess):sa aF oX [] Tryz.f80 [.c (.fz (.nm .sess) (l))] [] [.c (.own 0)] [.row 44 (.nm .sess) (r0)]=((fun (q0:Prop)=>q0->∀ (b:Bool),(b=true->l=[])->(b=true->r0=[])/\(b=false->q0/\l=r0)) (l.length*(32:Nat)<=(140737488355328:Nat))):=by kernel_rfl
theorem oU (l:List Sess):Sat Tryz.prog (au aF) 80 [.c (.fz (.nm .sess) (l))] [] ⟨[],[.c (.own 0)],some ([.row 44 (.nm .sess) ((l))]),true⟩:=by
 refine eg eD [] Tryz.func80 (by decide) (by kernel_rfl) ?_
 rw [oz]
 exact fun h b hb=>⟨hb,fun _=>⟨h,rfl⟩⟩
theorem rE (l:List Opn) (r0:List Opn):sa aF oX [] Tryz.f81 [.c (.fz (.nm .opn) (l))] [] [.c (.own 0)] [.row 77 (.nm .opn) (r0)]=((fun (q0:Prop)=>q0->∀ (b:Bool),(b=true->l=[])->(b=true->r0=[])/\(b=false->q0/\l=r0)) (l.length*(16:Nat)<=(140737488355328:Nat))):=by kernel_rfl
theorem pW (l:List Opn):Sat Tryz.prog (au aF) 81 [.c (.fz (.nm .opn) (l))] [] ⟨[],[.c (.own 0)],some ([.row 77 (.nm .opn) ((l))]),true⟩:=by
 refine eg eD [] Tryz.func81 (by decide) (by kernel_rfl) ?_
 rw [rE]
 exact fun h b hb=>⟨hb,fun _=>⟨h,rfl⟩⟩
theorem oN (l:List Snap) (r0:List Snap):sa aF oX [] Tryz.f82 [.c (.fz (.nm .snap) (l))] [] [.c (.own 0)] [.row 59 (.nm .snap) (r0)]=((fun (q0:Prop)=>q0->∀ (b:Bool),(b=true->l=[])->(b=true->r0=[])/\(b=false->q0/\l=r0)) (l.length*(64:Nat)<=(140737488355328:Nat))):=by kernel_rfl
theorem pD (l:List Snap):Sat Tryz.prog (au aF) 82 [.c (.fz (.nm .snap) (l))] [] ⟨[],[.c (.own 0)],some ([.row 59 (.nm .snap) ((l))]),true⟩:=by
 refine eg eD [] Tryz.func82 (by decide) (by kernel_rfl) ?_
 rw [oN]
 exact fun h b hb=>⟨hb,fun _=>⟨h,rfl⟩⟩
theorem qz (l:List Int) (r0:List Int):cP aF oX [] Tryz.f83 [.c (.fz .int (l))] [] [.c (.fz .int (r0))]=((fun (q0:Prop)=>q0->∀ (b:Bool),(b=true->l=[])->(b=true->r0=[])/\(b=false->q0/\l=r0)) (l.length*(8:Nat)<=(140737488355328:Nat))):=by kernel_rfl
theorem qv (l:List Int):Sat Tryz.prog (au aF) 83 [.c (.fz .int (l))] [] ⟨[],[.c (.fz .int ((l)))],none,false⟩:=by
 refine aQ eD [] Tryz.func83 (by decide) (by kernel_rfl) ?_
 rw [qz]
 intros; repeat' (first | refine And.intro ?_ ?_ | intro)
 all_goals first | rfl | assumption | simp_all
def qJ:cw:=(bS 83 (bL (ai (kC (cL .int)) aO) aN fun (l,_) (_)=>⟨[],[.c (.fz .int ((l)))],none,false⟩) (bS 82 (bL (ai (kC (cL (.nm .snap))) aO) aN fun (l,_) (_)=>⟨[],[.c (.own 0)],some ([.row 59 (.nm .snap) ((l))]),true⟩) (bS 81 (bL (ai (kC (cL (.nm .opn))) aO) aN fun (l,_) (_)=>⟨[],[.c (.own 0)],some ([.row 77 (.nm .opn) ((l))]),true⟩) (bS 80 (bL (ai (kC (cL (.nm .sess))) aO) aN fun (l,_) (_)=>⟨[],[.c (.own 0)],some ([.row 44 (.nm .sess) ((l))]),true⟩) (bS 116 (bL (ai (kC (cL (.nm .opn))) (ai (kC (mY 117 [] [])) aO)) aN fun (l,_,_) (_)=>⟨[],[.c (.bool (.atom ((l.all (bR)))))],none,false⟩) (bS 112 (bL (ai (kC (cL (.nm .sess))) (ai (kC (mY 113 [] [])) aO)) aN fun (l,_,_) (_)=>⟨[],[.c (.bool (.atom ((l.all (bM)))))],none,false⟩) (bS 143 (bL (ai (kC cU) aO) aN fun (n,_) (_)=>⟨[],[.c (.own 0)],some ([.row 5 .u8 ((lH n.n))]),true⟩) oX)))))))
theorem fy:aT Tryz.prog (au aF) qJ:=(aA (az (ab (av bN) ao) aq fun (l,_) (_) _=>qv l ) (aA (az (ab (av bN) ao) aq fun (l,_) (_) _=>pD l ) (aA (az (ab (av bN) ao) aq fun (l,_) (_) _=>pW l ) (aA (az (ab (av bN) ao) aq fun (l,_) (_) _=>oU l ) (aA (az (ab (av bN) (ab (av cm) ao)) aq fun (l,_,_) (_) _=>vN l ) (aA (az (ab (av bN) (ab (av cm) ao)) aq fun (l,_,_) (_) _=>wa l ) (aA (az (ab (av DR) ao) aq fun (n,_) (_) _=>GG n ) eD)))))))
end Go.Proofs.YtdggohppeeaipaaGreat
namespace Go.Proofs.YtdggohppeeaipaaGreat
open Go.RowKit
theorem sM {x:Int} {l:List Int} {k:Nat} (h:eT x (l.take k) = -1) (hk:l.length<=k):-1=eT x l:=by rw [List.take_of_length_le hk] at h; exact h.symm
theorem oI {x y:Int} {l:List Int} {k:Nat} (h:eT x (l.take k) = -1) (hy:l[k]? = some y) (e:x=y):(k:Int)=eT x l:=by
 refine yH (fun j z hj hz hc=>?_) hy e
 have hm:z ∈ l.take k:=by
  obtain ⟨h1,h2⟩:=List.getElem?_eq_some_iff.1 hz
  rw [List.mem_take_iff_getElem]; exact ⟨j,by omega,h2⟩
 have:decide (0<=eT x (l.take k))=true:=by rw [ud,List.contains_iff_mem,hc]; exact hm
 rw [decide_eq_true_eq] at this; omega
theorem sJ {x y:Int} {l:List Int} {k:Nat} (h:eT x (l.take k) = -1) (hy:l[k]? = some y) (e:¬ x=y):eT x (l.take (k+1)) = -1:=by
 have h0:(l.take k).contains x=false:=by
  have:=ud x (l.take k)
  rw [<- this,h]; decide
 have h1:(l.take (k+1)).contains x=false:=by
  rw [aD hy,<- Bool.not_eq_true,List.contains_iff_mem] at *
  intro hm
  rcases List.mem_append.1 hm with hm | hm
  ·exact h0 hm
  ·exact e (List.mem_singleton.1 hm)
 rw [<- ud,decide_eq_false_iff_not] at h1
 unfold eT at h1 ⊢
 split
 ·rename_i i hi; rw [hi] at h1; dsimp only at h1; omega
 ·rfl
theorem EA {l:List Int} {k:Nat} {x:Int} (hr:cF l=true) (hx:l[k]? = some x):0<=x:=Int.le_of_lt (sU hr x (List.mem_of_getElem? hx)).1
theorem sN {l:List Int} {k:Nat} {x:Int} (hr:cF l=true) (hx:l[k]? = some x):((dY (l.take k)).length+(lH x.toNat).length)*1<=140737488355328:=by
 have h1:=zb (l:=l.take k) (fun x hx=>(sU hr x (List.mem_of_mem_take hx)).2)
 have h2:=ow hr
 have h3:=sU hr x (List.mem_of_getElem? hx)
 have h4:=mP (n:=x.toNat) (by omega)
 rw [List.length_take] at h1; omega
def yd (l:List Int) (x:Int):List (Nat × LI):=[(2,{ σ:=Nat,F:=fun k=>([(0,one (.fz .int (l))),(1,one (.int (x))),(7,one (.int (l).length)),(8,one (.int k))],[]),J:=fun k=>k<=l.length/\eT x (l.take k) = -1,μ:=fun k=>(l).length - k })]
def uw (l:List Int):List (Nat × LI):=[(5,{ σ:=Nat,F:=fun k=>([(4,one (.own 0)),(10,one (.fz .int (l))),(11,one (.int (l).length)),(12,one (.int k))],[.row 5 .u8 ((dY (l.take k)))]),J:=fun k=>k<=l.length/\cF l=true,μ:=fun k=>(l).length - k })]
theorem Bv (l:List Int) (x:Int) (r0:Int):cP aF qJ (yd l x) Tryz.f144 [.c (.fz .int (l)),.c (.int (x))] [] [.c (.int (r0))]=((fun (q1:Int)=>(fun (q0:Nat)=>l.length*(8:Nat)<=(140737488355328:Nat)->I64 x->∃ (s0:Nat),(l=l/\x=x/\(↑l.length:Int)=(↑q0:Int)/\(0:Int)=(↑s0:Int))/\(s0<=q0/\eT x (List.take s0 l) = -q1)/\∀ (s:Nat),s<=q0/\eT x (List.take s l) = -q1->((↑s:Int)<(↑q0:Int)->(0:Int)<=(↑s:Int)/\(↑s:Int)<(↑l.length:Int)/\∀ (x_1:Int),l[s]? = some x_1->I64 x_1->(x=x_1->(↑s:Int)=r0)/\(¬x=x_1->I64 ((↑s:Int)+q1)/\∃ (s':Nat),(l=l/\x=x/\(↑q0:Int)=(↑q0:Int)/\(↑s:Int)+q1=(↑s':Int))/\(s' <= q0/\eT x (List.take s' l) = -q1)/\q0 - s' < q0 - s))/\((↑q0:Int)<=(↑s:Int) -> -q1=r0)) l.length) (1:Int)):=by kernel_rfl
theorem BI (l:List Int) (x:Int):Sat Tryz.prog (au aF) 144 [.c (.fz .int (l)),.c (.int (x))] [] ⟨[],[.c (.int ((eT x l)))],none,false⟩:=by
 refine aQ fy (yd l x) Tryz.func144 (by decide) (by kernel_rfl) ?_
 rw [Bv]
 (repeat' (first | with_reducible refine And.intro ?_ ?_ | with_reducible refine and_imp.2 ?_ | intro))
 all_goals try (first | (first | with_reducible rfl | with_reducible assumption | omega | (refine al ?_ ?_ <;> omega)) | exact rfl | exact (sM (by with_reducible assumption) (by omega)) | exact (oI (by with_reducible assumption) (by with_reducible assumption) (by with_reducible assumption)) | exact (sJ (by with_reducible assumption) (by with_reducible assumption) (by with_reducible assumption)))
 all_goals try (refine ⟨0,?_⟩; (repeat' (first | with_reducible refine And.intro ?_ ?_ | with_reducible refine and_imp.2 ?_ | intro)))
 all_goals try (first | (first | with_reducible rfl | with_reducible assumption | omega | (refine al ?_ ?_ <;> omega)) | exact rfl | exact (sM (by with_reducible assumption) (by omega)) | exact (oI (by with_reducible assumption) (by with_reducible assumption) (by with_reducible assumption)) | exact (sJ (by with_reducible assumption) (by with_reducible assumption) (by with_reducible assumption)))
 all_goals try (refine ⟨‹Nat› + 1,?_⟩; (repeat' (first | with_reducible refine And.intro ?_ ?_ | with_reducible refine and_imp.2 ?_ | intro)))
 all_goals (first | (first | with_reducible rfl | with_reducible assumption | omega | (refine al ?_ ?_ <;> omega)) | exact rfl | exact (sM (by with_reducible assumption) (by omega)) | exact (oI (by with_reducible assumption) (by with_reducible assumption) (by with_reducible assumption)) | exact (sJ (by with_reducible assumption) (by with_reducible assumption) (by with_reducible assumption)))
theorem Bc (n:Int) (most:Int) (named:Bool) (r0:Bool):cP aF qJ [] Tryz.f138 [.c (.int (n)),.c (.int (most)),.c (.bool (.atom (named)))] [] [.c (.bool (.atom (r0)))]=(I64 n->I64 most->(named=true->(decide ((1:Int)<=n) && decide (n<=most))=r0)/\(named=false->decide (n=(0:Int))=r0)):=by kernel_rfl
theorem CU (n:Int) (most:Int) (named:Bool):Sat Tryz.prog (au aF) 138 [.c (.int (n)),.c (.int (most)),.c (.bool (.atom (named)))] [] ⟨[],[.c (.bool (.atom ((fO n most named))))],none,false⟩:=by
 refine aQ fy [] Tryz.func138 (by decide) (by kernel_rfl) ?_
 rw [Bc]
 grind [fO]
theorem yP (l:List Int) (r0:List UInt8) (r1:Int):cP aF qJ (uw l) Tryz.f135 [.c (.fz .int (l))] [] [.c (.fz .u8 (r0)),.c (.int (r1))]=((fun (q1:Prop)=>(fun (q0:Nat)=>l.length*(8:Nat)<=(140737488355328:Nat)->(cF l=false->r0=[]/\(1:Int)=r1)/\(q1->∃ (s0:Nat),(l=l/\(↑l.length:Int)=(↑q0:Int)/\(0:Int)=(↑s0:Int)/\dY (List.take s0 l)=[])/\(s0<=q0/\q1)/\∀ (s:Nat),s<=q0/\q1->((↑s:Int)<(↑q0:Int)->(0:Int)<=(↑s:Int)/\(↑s:Int)<(↑l.length:Int)/\∀ (x:Int),l[s]? = some x->I64 x->(0:Int)<=x/\((dY (List.take s l)).length+(lH x.toNat).length)*(1:Nat)<=(140737488355328:Nat)/\I64 ((↑s:Int)+(1:Int))/\∃ (s':Nat),(l=l/\(↑q0:Int)=(↑q0:Int)/\(↑s:Int)+(1:Int)=(↑s':Int)/\dY (List.take s l)++lH x.toNat=dY (List.take s' l))/\(s' <= q0/\q1)/\q0 - s' < q0 - s)/\((↑q0:Int)<=(↑s:Int)->dY (List.take s l)=r0/\(0:Int)=r1))) l.length) (cF l=true)):=by kernel_rfl
theorem zQ (l:List Int):Sat Tryz.prog (au aF) 135 [.c (.fz .int (l))] [] ⟨[],[.c (.fz .u8 ((fC l))),.c (.int ((cY l)))],none,false⟩:=by
 refine aQ fy (uw l) Tryz.func135 (by decide) (by kernel_rfl) ?_
 rw [yP]
 (repeat' (first | with_reducible refine And.intro ?_ ?_ | with_reducible refine and_imp.2 ?_ | intro))
 all_goals try (first | (first | with_reducible rfl | with_reducible assumption | omega | (refine al ?_ ?_ <;> omega)) | exact rfl | exact (jD (by with_reducible assumption)).symm | exact (fJ (by with_reducible assumption)) | exact (ez (by with_reducible assumption)) | exact (mG (by with_reducible assumption) (by omega)) | exact (jl (by with_reducible assumption)) | exact (EA (by with_reducible assumption) (by with_reducible assumption)) | exact (sN (by with_reducible assumption) (by with_reducible assumption)))
 all_goals try (refine ⟨0,?_⟩; (repeat' (first | with_reducible refine And.intro ?_ ?_ | with_reducible refine and_imp.2 ?_ | intro)))
 all_goals try (first | (first | with_reducible rfl | with_reducible assumption | omega | (refine al ?_ ?_ <;> omega)) | exact rfl | exact (jD (by with_reducible assumption)).symm | exact (fJ (by with_reducible assumption)) | exact (ez (by with_reducible assumption)) | exact (mG (by with_reducible assumption) (by omega)) | exact (jl (by with_reducible assumption)) | exact (EA (by with_reducible assumption) (by with_reducible assumption)) | exact (sN (by with_reducible assumption) (by with_reducible assumption)))
 all_goals try (refine ⟨‹Nat› + 1,?_⟩; (repeat' (first | with_reducible refine And.intro ?_ ?_ | with_reducible refine and_imp.2 ?_ | intro)))
 all_goals (first | (first | with_reducible rfl | with_reducible assumption | omega | (refine al ?_ ?_ <;> omega)) | exact rfl | exact (jD (by with_reducible assumption)).symm | exact (fJ (by with_reducible assumption)) | exact (ez (by with_reducible assumption)) | exact (mG (by with_reducible assumption) (by omega)) | exact (jl (by with_reducible assumption)) | exact (EA (by with_reducible assumption) (by with_reducible assumption)) | exact (sN (by with_reducible assumption) (by with_reducible assumption)))
theorem xk (s:State) (x:Int) (r0:Int):cP aF qJ [] Tryz.f35 [.agg (cellsOf (.nm .state) s),.c (.int (x))] [] [.c (.int (r0))]=(I64 s.version->I64 s.next->I64 s.keep->I64 s.quota->s.sess.length*(32:Nat)<=(140737488355328:Nat)->s.opens.length*(16:Nat)<=(140737488355328:Nat)->s.snaps.length*(64:Nat)<=(140737488355328:Nat)->I64 x->I64 (ah Sess.client x s.sess)->ah Sess.client x s.sess=r0):=by kernel_rfl
theorem Al (s:State) (x:Int):Sat Tryz.prog (au aF) 35 [.agg (cellsOf (.nm .state) s),.c (.int (x))] [] ⟨[],[.c (.int ((ah Sess.client x s.sess)))],none,false⟩:=by
 refine aQ fy [] Tryz.func35 (by decide) (by kernel_rfl) ?_
 rw [xk]
 grind
theorem zr (s:State) (x:Int) (r0:Int):cP aF qJ [] Tryz.f91 [.agg (cellsOf (.nm .state) s),.c (.int (x))] [] [.c (.int (r0))]=(I64 s.version->I64 s.next->I64 s.keep->I64 s.quota->s.sess.length*(32:Nat)<=(140737488355328:Nat)->s.opens.length*(16:Nat)<=(140737488355328:Nat)->s.snaps.length*(64:Nat)<=(140737488355328:Nat)->I64 x->I64 (ah Opn.set x s.opens)->ah Opn.set x s.opens=r0):=by kernel_rfl
theorem yz (s:State) (x:Int):Sat Tryz.prog (au aF) 91 [.agg (cellsOf (.nm .state) s),.c (.int (x))] [] ⟨[],[.c (.int ((ah Opn.set x s.opens)))],none,false⟩:=by
 refine aQ fy [] Tryz.func91 (by decide) (by kernel_rfl) ?_
 rw [zr]
 grind
theorem AJ (s:State) (x:Int) (r0:Int):cP aF qJ [] Tryz.f43 [.agg (cellsOf (.nm .state) s),.c (.int (x))] [] [.c (.int (r0))]=(I64 s.version->I64 s.next->I64 s.keep->I64 s.quota->s.sess.length*(32:Nat)<=(140737488355328:Nat)->s.opens.length*(16:Nat)<=(140737488355328:Nat)->s.snaps.length*(64:Nat)<=(140737488355328:Nat)->I64 x->I64 (ah Snap.id x s.snaps)->ah Snap.id x s.snaps=r0):=by kernel_rfl
theorem AN (s:State) (x:Int):Sat Tryz.prog (au aF) 43 [.agg (cellsOf (.nm .state) s),.c (.int (x))] [] ⟨[],[.c (.int ((ah Snap.id x s.snaps)))],none,false⟩:=by
 refine aQ fy [] Tryz.func43 (by decide) (by kernel_rfl) ?_
 rw [AJ]
 grind
def CK:cw:=(bS 43 (bL (ai (kT (.nm .state)) (ai (kC cI) aO)) aN fun (s,x,_) (_)=>⟨[],[.c (.int ((ah Snap.id x s.snaps)))],none,false⟩) (bS 91 (bL (ai (kT (.nm .state)) (ai (kC cI) aO)) aN fun (s,x,_) (_)=>⟨[],[.c (.int ((ah Opn.set x s.opens)))],none,false⟩) (bS 35 (bL (ai (kT (.nm .state)) (ai (kC cI) aO)) aN fun (s,x,_) (_)=>⟨[],[.c (.int ((ah Sess.client x s.sess)))],none,false⟩) (bS 135 (bL (ai (kC (cL .int)) aO) aN fun (l,_) (_)=>⟨[],[.c (.fz .u8 ((fC l))),.c (.int ((cY l)))],none,false⟩) (bS 138 (bL (ai (kC cI) (ai (kC cI) (ai (kC cB) aO))) aN fun (n,most,named,_) (_)=>⟨[],[.c (.bool (.atom ((fO n most named))))],none,false⟩) (bS 144 (bL (ai (kC (cL .int)) (ai (kC cI) aO)) aN fun (l,x,_) (_)=>⟨[],[.c (.int ((eT x l)))],none,false⟩) qJ))))))
theorem pE:aT Tryz.prog (au aF) CK:=(aA (az (ab bI (ab (av ax) ao)) aq fun (s,x,_) (_) _=>AN s x ) (aA (az (ab bI (ab (av ax) ao)) aq fun (s,x,_) (_) _=>yz s x ) (aA (az (ab bI (ab (av ax) ao)) aq fun (s,x,_) (_) _=>Al s x ) (aA (az (ab (av bN) ao) aq fun (l,_) (_) _=>zQ l ) (aA (az (ab (av ax) (ab (av ax) (ab (av oa) ao))) aq fun (n,most,named,_) (_) _=>CU n most named ) (aA (az (ab (av bN) (ab (av ax) ao)) aq fun (l,x,_) (_) _=>BI l x ) fy))))))
end Go.Proofs.YtdggohppeeaipaaGreat
namespace Go.Proofs.YtdggohppeeaipaaGreat
open Go.RowKit
theorem sH (l:List Int) (x:Int) (r0:Bool):cP aF CK [] Tryz.f137 [.c (.fz .int (l)),.c (.int (x))] [] [.c (.bool (.atom (r0)))]=(l.length*(8:Nat)<=(140737488355328:Nat)->I64 x->I64 (eT x l)->decide ((0:Int)<=eT x l)=r0):=by kernel_rfl
theorem sF (l:List Int) (x:Int):Sat Tryz.prog (au aF) 137 [.c (.fz .int (l)),.c (.int (x))] [] ⟨[],[.c (.bool (.atom ((l.contains x))))],none,false⟩:=by
 refine aQ pE [] Tryz.func137 (by decide) (by kernel_rfl) ?_
 rw [sH]
 intros; exact ud _ _
theorem xt (x:Snap) (v:Int) (t:Int) (r0:Bool):cP aF CK [] Tryz.f134 [.agg (cellsOf (.nm .snap) x),.c (.ptr 0 0),.c (.ptr 1 0)] [.box 3 ([.int (v)]),.box 3 ([.int (t)])] [.c (.bool (.atom (r0)))]=(I64 x.id->I64 x.set->x.chunks.length*(8:Nat)<=(140737488355328:Nat)->x.tag.b.length<=(140737488355328:Nat)->(fC x.chunks).length*(1:Nat)<=(140737488355328:Nat)->I64 (cY x.chunks)->(decide (cY x.chunks=(0:Int)) && bl x.set (1:Int) (8:Int) && (!x.held || decide ((2:Int)<=v)) && decide ((↑x.tag.b.length:Int)<=t))=r0):=by kernel_rfl
theorem yM (x:Snap) (v:Int) (t:Int):Sat Tryz.prog (au aF) 134 [.agg (cellsOf (.nm .snap) x),.c (.ptr 0 0),.c (.ptr 1 0)] [.box 3 ([.int (v)]),.box 3 ([.int (t)])] ⟨[],[.c (.bool (.atom ((bk v t x))))],none,false⟩:=by
 refine aQ pE [] Tryz.func134 (by decide) (by kernel_rfl) ?_
 rw [xt]
 intros; rfl
def Bo:cw:=(bS 134 (bL (ai (kT (.nm .snap)) (ai (kC (bQ 0 0)) (ai (kC (bQ 1 0)) aO))) (ay (bP 3 (aj cI bK)) (ay (bP 3 (aj cI bK)) aN)) fun (x,_,_,_) ((v,_),(t,_),_)=>⟨[],[.c (.bool (.atom ((bk v t x))))],none,false⟩) (bS 137 (bL (ai (kC (cL .int)) (ai (kC cI) aO)) aN fun (l,x,_) (_)=>⟨[],[.c (.bool (.atom ((l.contains x))))],none,false⟩) CK))
theorem py:aT Tryz.prog (au aF) Bo:=(aA (az (ab bI (ab (av aJ) (ab (av aJ) ao))) (ag (aH (ae ax aG)) (ag (aH (ae ax aG)) aq)) fun (x,_,_,_) ((v,_),(t,_),_) _=>yM x v t ) (aA (az (ab (av bN) (ab (av ax) ao)) aq fun (l,x,_) (_) _=>sF l x ) pE))
end Go.Proofs.YtdggohppeeaipaaGreat
namespace Go.Proofs.YtdggohppeeaipaaGreat
open Go.RowKit
def p_ (l:List Snap) (v:Int) (t:Int):List (Nat × LI):=[(2,{ σ:=Nat,F:=fun k=>([(1,one (.fn 134 [] [(0,0),(1,0)])),(7,one (.fz (.nm .snap) (l))),(8,one (.int (l).length)),(9,one (.int k))],[.box 3 ([.int ((v))]),.box 3 ([.int ((t))])]),J:=fun k=>k<=l.length/\(l.take k).all ((bk v t))=true,μ:=fun k=>(l).length - k })]
theorem Bz (l:List Int) (c:Command) (r0:Bool):cP aF Bo [] Tryz.f136 [.c (.fz .int (l)),.c (.ptr 0 0)] [.box 29 (cellsOf (.nm .command) (c))] [.c (.bool (.atom (r0)))]=(l.length*(8:Nat)<=(140737488355328:Nat)->l.contains c.kind=r0):=by kernel_rfl
theorem Bq (l:List Int) (c:Command):Sat Tryz.prog (au aF) 136 [.c (.fz .int (l)),.c (.ptr 0 0)] [.box 29 (cellsOf (.nm .command) (c))] ⟨[],[.c (.bool (.atom ((l.contains c.kind))))],none,false⟩:=by
 refine aQ py [] Tryz.func136 (by decide) (by kernel_rfl) ?_
 rw [Bz]
 grind
theorem vK (l:List Snap) (v:Int) (t:Int) (r0:Bool):cP aF Bo (p_ l v t) Tryz.f133 [.c (.fz (.nm .snap) (l)),.c (.fn 134 [] [(0,0),(1,0)])] [.box 3 ([.int (v)]),.box 3 ([.int (t)])] [.c (.bool (.atom (r0)))]=((fun (q0:Nat)=>l.length*(64:Nat)<=(140737488355328:Nat)->∃ (s0:Nat),(l=l/\(↑l.length:Int)=(↑q0:Int)/\(0:Int)=(↑s0:Int)/\v=v/\t=t)/\(s0<=q0/\(List.take s0 l).all (bk v t)=true)/\∀ (s:Nat),s<=q0/\(List.take s l).all (bk v t)=true->((↑s:Int)<(↑q0:Int)->(0:Int)<=(↑s:Int)/\(↑s:Int)<(↑l.length:Int)/\∀ (x:Snap),l[s]? = some x->I64 x.id->I64 x.set->x.chunks.length*(8:Nat)<=(140737488355328:Nat)->x.tag.b.length<=(140737488355328:Nat)->(bk v t x=false->false=r0)/\(bk v t x=true->I64 ((↑s:Int)+(1:Int))/\∃ (s':Nat),(l=l/\(↑q0:Int)=(↑q0:Int)/\(↑s:Int)+(1:Int)=(↑s':Int)/\v=v/\t=t)/\(s' <= q0/\(List.take s' l).all (bk v t)=true)/\q0 - s' < q0 - s))/\((↑q0:Int)<=(↑s:Int)->true=r0)) l.length):=by kernel_rfl
theorem wJ (l:List Snap) (v:Int) (t:Int):Sat Tryz.prog (au aF) 133 [.c (.fz (.nm .snap) (l)),.c (.fn 134 [] [(0,0),(1,0)])] [.box 3 ([.int (v)]),.box 3 ([.int (t)])] ⟨[],[.c (.bool (.atom ((l.all ((bk v t))))))],none,false⟩:=by
 refine aQ py (p_ l v t) Tryz.func133 (by decide) (by kernel_rfl) ?_
 rw [vK]
 (repeat' (first | with_reducible refine And.intro ?_ ?_ | with_reducible refine and_imp.2 ?_ | intro))
 all_goals try (first | (first | with_reducible rfl | with_reducible assumption | omega | (refine al ?_ ?_ <;> omega)) | exact (dr (p:=(bk v t)) (by with_reducible assumption) (by with_reducible assumption) (by with_reducible assumption)) | exact (jg (p:=(bk v t)) (by with_reducible assumption) (by with_reducible assumption)) | exact (iy (p:=(bk v t)) (by with_reducible assumption) (by omega)) | exact rfl)
 all_goals try (refine ⟨0,?_⟩; (repeat' (first | with_reducible refine And.intro ?_ ?_ | with_reducible refine and_imp.2 ?_ | intro)))
 all_goals try (first | (first | with_reducible rfl | with_reducible assumption | omega | (refine al ?_ ?_ <;> omega)) | exact (dr (p:=(bk v t)) (by with_reducible assumption) (by with_reducible assumption) (by with_reducible assumption)) | exact (jg (p:=(bk v t)) (by with_reducible assumption) (by with_reducible assumption)) | exact (iy (p:=(bk v t)) (by with_reducible assumption) (by omega)) | exact rfl)
 all_goals try (refine ⟨‹Nat› + 1,?_⟩; (repeat' (first | with_reducible refine And.intro ?_ ?_ | with_reducible refine and_imp.2 ?_ | intro)))
 all_goals (first | (first | with_reducible rfl | with_reducible assumption | omega | (refine al ?_ ?_ <;> omega)) | exact (dr (p:=(bk v t)) (by with_reducible assumption) (by with_reducible assumption) (by with_reducible assumption)) | exact (jg (p:=(bk v t)) (by with_reducible assumption) (by with_reducible assumption)) | exact (iy (p:=(bk v t)) (by with_reducible assumption) (by omega)) | exact rfl)
def BP:cw:=(bS 133 (bL (ai (kC (cL (.nm .snap))) (ai (kC (mY 134 [] [(0,0),(1,0)])) aO)) (ay (bP 3 (aj cI bK)) (ay (bP 3 (aj cI bK)) aN)) fun (l,_,_) ((v,_),(t,_),_)=>⟨[],[.c (.bool (.atom ((l.all ((bk v t))))))],none,false⟩) (bS 136 (bL (ai (kC (cL .int)) (ai (kC (bQ 0 0)) aO)) (ay (bP 29 (pQ (.nm .command) bK)) aN) fun (l,_,_) ((c,_),_)=>⟨[],[.c (.bool (.atom ((l.contains c.kind))))],none,false⟩) Bo))
theorem pz:aT Tryz.prog (au aF) BP:=(aA (az (ab (av bN) (ab (av cm) ao)) (ag (aH (ae ax aG)) (ag (aH (ae ax aG)) aq)) fun (l,_,_) ((v,_),(t,_),_) _=>wJ l v t ) (aA (az (ab (av bN) (ab (av aJ) ao)) (ag (aH (cQ aG)) aq) fun (l,_,_) ((c,_),_) _=>Bq l c ) py))
end Go.Proofs.YtdggohppeeaipaaGreat
namespace Go.Proofs.YtdggohppeeaipaaGreat
open Go.RowKit
theorem HO (k:Int):(if k=12 then some (Span.mk 0 64) else if k=8 then some (Span.mk 2 3) else if k=6 then some (Span.mk 0 8) else none).getD (dflt (.nm .span))=⟨(fT k).1,(fT k).2⟩:=by
 by_cases h1:k=12
 ·subst h1; rfl
 ·by_cases h2:k=8
  ·subst h2; rfl
  ·by_cases h3:k=6
   ·subst h3; rfl
   ·simp [fT,ml,h1,h2,h3,dflt]; rfl
theorem FC (c:Command) (r0:Bool):cP aF BP [] Tryz.f121 [.agg (cellsOf (.nm .command) c)] [] [.c (.bool (.atom (r0)))]=((fun (q9:Int)=>(fun (q8:Int)=>(fun (q7:Prop)=>(fun (q6:Bool)=>(fun (q5:Bool)=>(fun (q4:Bool)=>(fun (q3:Prop)=>(fun (q2:Prop)=>(fun (q1:Prop)=>(fun (q0:den (Sh.nm NT.span))=>I64 q8->I64 c.client->I64 c.seq->I64 c.set->I64 c.id->I64 c.n->c.chunks.length*(8:Nat)<=(140737488355328:Nat)->c.text.b.length<=(140737488355328:Nat)->(q8=(3:Int)->((decide (q0.lo<=c.n) && decide (c.n<=q0.hi))=true->(cF c.chunks=true->(q7->q1)/\(¬q7->q2))/\(cF c.chunks=false->q2))/\((decide (q0.lo<=c.n) && decide (c.n<=q0.hi))=false->q2))/\(¬q8=(3:Int)->(q8=(11:Int)->((decide (q0.lo<=c.n) && decide (c.n<=q0.hi))=true->(q3->((↑c.text.b.length:Int)<=(16:Int)->q1)/\((16:Int)<(↑c.text.b.length:Int)->q2))/\(¬q3->q2))/\((decide (q0.lo<=c.n) && decide (c.n<=q0.hi))=false->q2))/\(¬q8=(11:Int)->((decide (q0.lo<=c.n) && decide (c.n<=q0.hi))=true->(q3->(q7->q1)/\(¬q7->q2))/\(¬q3->q2))/\((decide (q0.lo<=c.n) && decide (c.n<=q0.hi))=false->q2)))) (((fun (j:Int)=>if j=(12:Int) then some (Span.mk (0:Int) (64:Int)) else (fun (j:Int)=>if j=q9 then some (Span.mk (2:Int) (3:Int)) else (fun (j:Int)=>if j=(6:Int) then some (Span.mk (0:Int) q9) else (fun (_:Int)=>none) j) j) j) q8).getD (dflt (Sh.nm NT.span)))) ((q6=true->(q5=true->(q4=true->fO c.id (1048576:Int) ([(5:Int),(7:Int),(9:Int),(10:Int),(11:Int)].contains q8)=r0)/\(q4=false->q2))/\(q5=false->q2))/\(q6=false->q2))) (false=r0)) ((↑c.chunks.length:Int)=(0:Int))) (fO c.set q9 ([(2:Int),(3:Int),(4:Int)].contains q8))) (fO c.seq (1048576:Int) ![(1:Int),q9].contains q8)) (fO c.client q9 ![q9].contains q8)) (c.text=Str.mk [])) c.kind) (8:Int)):=by kernel_rfl
theorem Ff (c:Command):Sat Tryz.prog (au aF) 121 [.agg (cellsOf (.nm .command) c)] [] ⟨[],[.c (.bool (.atom ((di c))))],none,false⟩:=by
 refine aQ pz [] Tryz.func121 (by decide) (by kernel_rfl) ?_
 rw [FC]
 simp only [HO]
 (repeat' (first | with_reducible refine And.intro ?_ ?_ | with_reducible refine and_imp.2 ?_ | intro))
 all_goals ((unfold di uO Gr; simp_all) <;> (intros; omega))
theorem Ca (s:State) (v:Int) (r0:Bool):cP aF BP [] Tryz.f118 [.agg (cellsOf (.nm .state) s),.c (.int (v))] [] [.c (.bool (.atom (r0)))]=((fun (q1:Nat)=>(fun (q0:Int)=>I64 s.version->I64 s.next->I64 s.keep->I64 s.quota->s.sess.length*(32:Nat)<=(140737488355328:Nat)->s.opens.length*(16:Nat)<=(140737488355328:Nat)->q1*(64:Nat)<=(140737488355328:Nat)->I64 v->((↑q1:Int)<=(16:Int)->I64 q0/\q0<=(1048576:Int))/\((16:Int)<(↑q1:Int)\/ak Snap.id q0 (0:Int) s.snaps=false->false=r0)/\((↑q1:Int)<=(16:Int)/\ak Snap.id q0 (0:Int) s.snaps=true->(v<(3:Int)->s.snaps.all (bk v (0:Int))=r0)/\((3:Int)<=v->s.snaps.all (bk v (16:Int))=r0))) (s.next - (1:Int))) s.snaps.length):=by kernel_rfl
theorem Bg (s:State) (v:Int) (h0:1<=s.next/\s.next<=1048576):Sat Tryz.prog (au aF) 118 [.agg (cellsOf (.nm .state) s),.c (.int (v))] [] ⟨[1<=s.next/\s.next<=1048576],[.c (.bool (.atom ((dx s v))))],none,false⟩:=by
 refine aQ pz [] Tryz.func118 (by decide) (by kernel_rfl) ?_
 rw [Ca]
 (repeat' (first | with_reducible refine And.intro ?_ ?_ | with_reducible refine and_imp.2 ?_ | intro))
 all_goals (first | (first | with_reducible rfl | with_reducible assumption | omega | (refine al ?_ ?_ <;> omega)) | ((simp only [dx,du]; simp_all) <;> (intros; omega)) | (simp only [dx,du]; grind))
def wj:cw:=(bS 118 (bL (ai (kT (.nm .state)) (ai (kC cI) aO)) aN fun (s,v,_) (_)=>⟨[1<=s.next/\s.next<=1048576],[.c (.bool (.atom ((dx s v))))],none,false⟩) (bS 121 (bL (ai (kT (.nm .command)) aO) aN fun (c,_) (_)=>⟨[],[.c (.bool (.atom ((di c))))],none,false⟩) BP))
theorem iU:aT Tryz.prog (au aF) wj:=(aA (az (ab bI (ab (av ax) ao)) aq fun (s,v,_) (_) hp=>Bg s v (fb hp)) (aA (az (ab bI ao) aq fun (c,_) (_) _=>Ff c ) pz))
end Go.Proofs.YtdggohppeeaipaaGreat
namespace Go.Proofs.YtdggohppeeaipaaGreat
open Go.RowKit
def eM (n:Int) (used:Bool) (lo hi:Int):Bool:=if used then bl n lo hi else decide (n=0)
def cG (s:State) (at_:Nat) (k:Nat):Int:=(((s.snaps.drop (at_+1)).take k).filter fun x=>decide (x.set=(s.snaps.getD at_ (dflt (.nm .snap))).set)).length
def fZ (s:State) (at_:Int):Bool:=if at_<0\/(s.snaps.length:Int)<=at_ then false else decide (cG s at_.toNat s.snaps.length<s.keep)
def nch (l:List Snap):Nat:=(l.flatMap Snap.chunks).length
def o_ (c:Int) (l:List Snap):Nat:=(l.flatMap Snap.chunks).count c
def aX (id:Int) (l:List Snap):List Snap:=l.filter fun x=>!decide (x.id=id)
theorem gd {α:Type} {l:List α} {k:Nat} {d:α} (h:(k:Int)<l.length):l[k]? = some (l.getD k d):=by
 have hk:k<l.length:=by omega
 rw [List.getD_eq_getElem?_getD,List.getElem?_eq_getElem hk]; rfl
theorem po {l:List Int} {k:Nat} (h:ak id 64 0 (l.take k)=true) (hk:(k:Int)<l.length) (hb:bl (l.getD k (dflt .int)) 1 64=true/\((k:Int)<=0\/l.getD ((k:Int) - 1).toNat (dflt .int)<l.getD k (dflt .int))):ak id 64 0 (l.take (k+1))=true:=by
 have h1:=kD hb.1
 refine gm (key:=id) h (gd hk) ?_ h1.2
 by_cases h0:k=0
 ·subst h0; show (0:Int)<l.getD 0 (dflt .int); omega
 ·rw [mz (by omega) (gd (d:=dflt .int) (by omega))]
  have:=hb.2.resolve_left (by omega)
  rwa [show ((k:Int) - 1).toNat=k - 1 by omega] at this
theorem pF {l:List Int} {k:Nat} (hk:(k:Int)<l.length) (hb:bl (l.getD k (dflt .int)) 1 64=false\/0<(k:Int)/\l.getD k (dflt .int)<=l.getD ((k:Int) - 1).toNat (dflt .int)) (h:ak id 64 0 (l.take k)=true):false=cF l:=by
 refine gw (gd (d:=dflt .int) hk) fun h2=>?_
 rcases hb with hb | ⟨h3,h4⟩
 ·have h5:=Jg hb
  have:=vJ h
  omega
 ·rw [mz (by omega) (gd (d:=dflt .int) (by omega))] at h2
  rw [show ((k:Int) - 1).toNat=k - 1 by omega] at h4
  have:=h2.1
  dsimp only [id] at this
  omega
theorem tC {s:State} {a:Nat}:0=cG s a 0:=by simp [cG]
theorem Bx {s:State} {a k:Nat}:cG s a k<=(k:Int):=by
 have h1:=List.length_filter_le (fun x:Snap=>decide (x.set=(s.snaps.getD a (dflt (.nm .snap))).set)) ((s.snaps.drop (a+1)).take k)
 have h2:((s.snaps.drop (a+1)).take k).length<=k:=by rw [List.length_take]; omega
 unfold cG; omega
theorem BQ {s:State} {a k:Nat}:0<=cG s a k:=by unfold cG; omega
theorem sE {s:State} {a k:Nat} (h:a+1+k<=s.snaps.length) (h2:s.snaps.length*64<=140737488355328):I64 (cG s a k+1):=by
 have h1:=Bx (s:=s) (a:=a) (k:=k)
 have h0:=BQ (s:=s) (a:=a) (k:=k)
 constructor <;> omega
theorem sA {s:State} {a k:Nat} {x:Snap} (hx:(s.snaps.drop (a+1))[k]? = some x) (h:x.set=(s.snaps.getD a (dflt (.nm .snap))).set):cG s a k+1=cG s a (k+1):=by
 unfold cG
 rw [aD hx,List.filter_append,List.length_append]
 simp [h]
theorem sC {s:State} {a k:Nat} {x:Snap} (hx:(s.snaps.drop (a+1))[k]? = some x) (h:¬ x.set=(s.snaps.getD a (dflt (.nm .snap))).set):cG s a k=cG s a (k+1):=by
 unfold cG
 rw [aD hx,List.filter_append,List.length_append]
 rw [show List.filter (fun x:Snap=>decide (x.set=(s.snaps.getD a (dflt (.nm .snap))).set)) [x]=[] by simp only [List.filter_cons,h,decide_false,List.filter_nil]; rfl]
 simp
theorem lV {s:State} {a:Int} {k:Nat} (h0:0<=a) (ha:a<s.snaps.length) (h:(s.snaps.length:Int)<=a+1+k):decide (cG s a.toNat k<s.keep)=fZ s a:=by
 unfold fZ
 rw [if_neg (by omega)]
 have e:∀ m:Nat,(s.snaps.length:Int)<=a+1+m->cG s a.toNat m=cG s a.toNat s.snaps.length:=fun m hm=>by
  unfold cG
  rw [List.take_of_length_le (by rw [List.length_drop]; omega),List.take_of_length_le (by rw [List.length_drop]; omega)]
 rw [e k h]
theorem mo {s:State} {a:Int} (h:a<0\/(s.snaps.length:Int)<=a):false=fZ s a:=by unfold fZ; rw [if_pos h]
theorem Ab {id:Int} {l:List Snap} {k:Nat} {x y:Snap} (h:¬ x.id=id) (hx:l[k]? = some x) (hy:l[k]? = some y):aX id (l.take k)++[y]=aX id (l.take (k+1)):=by
 rw [hx] at hy; cases hy
 unfold aX; rw [aD hx,List.filter_append]; simp [h]
theorem xa {id:Int} {l:List Snap} {k:Nat} {x:Snap} (hx:l[k]? = some x) (h:x.id=id):aX id (l.take k)=aX id (l.take (k+1)):=by
 unfold aX; rw [aD hx,List.filter_append]; simp [h]
theorem sW {id:Int} {l:List Snap} {k:Nat} (h:(l.length:Int)<=k):aX id (l.take k)=aX id l:=by rw [List.take_of_length_le (by omega)]
theorem sX {id:Int} {l:List Snap} {k:Nat} {x:Snap} (h:(k:Int)<l.length) (hl:l.length*64<=140737488355328):((aX id (l.take k)).length+[x].length)*64<=140737488355328:=by
 have h1:=List.length_filter_le (fun x:Snap=>!decide (x.id=id)) (l.take k)
 rw [List.length_take] at h1
 unfold aX
 simp only [List.length_cons,List.length_nil]
 omega
def Dz (l:List Int):List (Nat × LI):=[(2,{ σ:=Nat,F:=fun k=>([(0,one (.fz .int (l))),(3,one (.int k))],[]),J:=fun k=>k<=l.length/\ak id 64 0 (l.take k)=true,μ:=fun k=>l.length - k })]
def DC (st:State) (at_:Int):List (Nat × LI):=[(5,{ σ:=Nat,F:=fun k=>([(1,one (.int (at_))),(2,one (.ptr 0 0)),(5,one (.int (cG st at_.toNat k))),(21,one (.fz (.nm .snap) (st.snaps.drop (at_+1).toNat))),(22,one (.int (st.snaps.drop (at_+1).toNat).length)),(23,one (.int k))],[.box 26 (cellsOf (.nm .state) ((st)))]),J:=fun k=>at_.toNat+1+k<=st.snaps.length/\0<=at_,μ:=fun k=>st.snaps.length - k })]
theorem Fl (l:List Int) (r0:Bool):cP aF wj (Dz l) Tryz.f72 [.c (.fz .int (l))] [] [.c (.bool (.atom (r0)))]=((fun (q4:Int)=>(fun (q3:Int)=>(fun (q2:den Sh.int)=>(fun (q1:Int)=>(fun (q0:Int)=>l.length*(8:Nat)<=(140737488355328:Nat)->∃ (s0:Nat),(l=l/\q1=(↑s0:Int))/\(s0<=l.length/\ak id q4 q1 (List.take s0 l)=true)/\∀ (s:Nat),(fun (q7:den Sh.int)=>(fun (q6:Int)=>(fun (q5:Prop)=>s<=l.length/\ak id q4 q1 (List.take s l)=true->(q6<q3->q1<=q6/\q6<q3/\(q5->q1<=q6/\q6<q3)/\(q5->I64 (q6 - q0))/\(q5->q1<=q6 - q0/\q6 - q0<q3)/\(I64 q7->(q5->I64 q7)->(q5->I64 (l.getD (q6 - q0).toNat q2))->(bl q7 q0 q4=false\/q1<q6/\q7<=l.getD (q6 - q0).toNat q2->false=r0)/\(bl q7 q0 q4=true/\(q6<=q1\/l.getD (q6 - q0).toNat q2<q7)->I64 (q6+q0)/\∃ (s':Nat),(l=l/\q6+q0=(↑s':Int))/\(s' <= l.length/\ak id q4 q1 (List.take s' l)=true)/\l.length - s' < l.length - s)))/\(q3<=q6->(decide (q0<=q3) && decide (q3<=(8:Int)))=r0)) (bl q7 q0 q4=true/\q1<q6)) (↑s:Int)) (l.getD s q2)) (1:Int)) (0:Int)) (dflt Sh.int)) (↑l.length:Int)) (64:Int)):=by kernel_rfl
theorem EY (l:List Int):Sat Tryz.prog (au aF) 72 [.c (.fz .int (l))] [] ⟨[],[.c (.bool (.atom ((cF l))))],none,false⟩:=by
 refine aQ iU (Dz l) Tryz.func72 (by decide) (by kernel_rfl) ?_
 rw [Fl]
 (repeat' (first | with_reducible refine And.intro ?_ ?_ | with_reducible refine and_imp.2 ?_ | intro))
 all_goals try (first | (first | with_reducible rfl | with_reducible assumption | omega | (refine al ?_ ?_ <;> omega)) | exact rfl | exact (po (by with_reducible assumption) (by omega) (And.intro (by with_reducible assumption) (by assumption))) | exact (pF (by omega) (by assumption) (by with_reducible assumption)) | exact (jI (by with_reducible assumption) (by omega)))
 all_goals try (refine ⟨0,?_⟩; (repeat' (first | with_reducible refine And.intro ?_ ?_ | with_reducible refine and_imp.2 ?_ | intro)))
 all_goals try (first | (first | with_reducible rfl | with_reducible assumption | omega | (refine al ?_ ?_ <;> omega)) | exact rfl | exact (po (by with_reducible assumption) (by omega) (And.intro (by with_reducible assumption) (by assumption))) | exact (pF (by omega) (by assumption) (by with_reducible assumption)) | exact (jI (by with_reducible assumption) (by omega)))
 all_goals try (refine ⟨‹Nat› + 1,?_⟩; (repeat' (first | with_reducible refine And.intro ?_ ?_ | with_reducible refine and_imp.2 ?_ | intro)))
 all_goals (first | (first | with_reducible rfl | with_reducible assumption | omega | (refine al ?_ ?_ <;> omega)) | exact rfl | exact (po (by with_reducible assumption) (by omega) (And.intro (by with_reducible assumption) (by assumption))) | exact (pF (by omega) (by assumption) (by with_reducible assumption)) | exact (jI (by with_reducible assumption) (by omega)))
theorem CC (x:Int) (r0:Int):cP aF wj [] Tryz.f70 [.c (.int (x))] [] [.c (.int (r0))]=(I64 x->(bl x (1:Int) (8:Int)=true->(1:Int)=r0)/\(bl x (1:Int) (8:Int)=false->(bl x (9:Int) (10:Int)=true->(2:Int)=r0)/\(bl x (9:Int) (10:Int)=false->(bl x (11:Int) (12:Int)=true->(3:Int)=r0)/\(bl x (11:Int) (12:Int)=false->(0:Int)=r0)))):=by kernel_rfl
theorem Dc (x:Int):Sat Tryz.prog (au aF) 70 [.c (.int (x))] [] ⟨[],[.c (.int ((bw x)))],none,false⟩:=by
 refine aQ iU [] Tryz.func70 (by decide) (by kernel_rfl) ?_
 rw [CC]
 intro _
 by_cases h:1<=x/\x<=12
 ·rw [CL h]; simp only [bl,Bool.and_eq_true,Bool.and_eq_false_iff,decide_eq_true_eq,decide_eq_false_iff_not]; (repeat' (first | with_reducible refine And.intro ?_ ?_ | with_reducible refine and_imp.2 ?_ | intro)) <;> (repeat split) <;> omega
 ·rw [Bb h]; exact ⟨fun h1=>absurd (kD h1) (by omega),fun _=>⟨fun h1=>absurd (kD h1) (by omega),fun _=>⟨fun h1=>absurd (kD h1) (by omega),fun _=>rfl⟩⟩⟩
theorem xo (n:Int) (used:Bool) (lo:Int) (hi:Int) (r0:Bool):cP aF wj [] Tryz.f71 [.c (.int (n)),.c (.bool (.atom (used))),.c (.int (lo)),.c (.int (hi))] [] [.c (.bool (.atom (r0)))]=(I64 n->I64 lo->I64 hi->(used=false->decide (n=(0:Int))=r0)/\(used=true->bl n lo hi=r0)):=by kernel_rfl
theorem xj (n:Int) (used:Bool) (lo:Int) (hi:Int):Sat Tryz.prog (au aF) 71 [.c (.int (n)),.c (.bool (.atom (used))),.c (.int (lo)),.c (.int (hi))] [] ⟨[],[.c (.bool (.atom ((eM n used lo hi))))],none,false⟩:=by
 refine aQ iU [] Tryz.func71 (by decide) (by kernel_rfl) ?_
 rw [xo]
 grind [eM]
theorem Er (st:State) (at_:Int) (r0:Bool):cP aF wj (DC st at_) Tryz.f98 [.agg (cellsOf (.nm .state) st),.c (.int (at_))] [] [.c (.bool (.atom (r0)))]=((fun (q8:Int)=>(fun (q7:Nat)=>(fun (q6:den (Sh.nm NT.snap))=>(fun (q5:Int)=>(fun (q4:Prop)=>(fun (q3:Nat)=>(fun (q2:List Snap)=>(fun (q1:Nat)=>(fun (q0:Prop)=>I64 st.version->I64 st.next->I64 st.keep->I64 st.quota->st.sess.length*(32:Nat)<=q7->st.opens.length*(16:Nat)<=q7->q2.length*(64:Nat)<=q7->I64 at_->(at_<q8\/(↑q2.length:Int)<=at_->false=r0)/\(q4/\at_<(↑q2.length:Int)->I64 (at_+q5)/\q8<=at_+q5/\at_+q5<=(↑q2.length:Int)/\∃ (s0:Nat),(fun (q13:Nat)=>(fun (q12:Nat)=>(fun (q11:den (Sh.nm NT.snap))=>(fun (q10:List (den (Sh.nm NT.snap)))=>(fun (q9:Int)=>(at_=at_/\q8=cG st q3 s0/\q10=q10/\(↑q10.length:Int)=q9/\q8=(↑s0:Int)/\q0)/\(q13+s0<=q12/\q4)/\∀ (s:Nat),(fun (q15:Int)=>(fun (q14:Int)=>q13+s<=q12/\q4->((↑s:Int)<q9->q8<=(↑s:Int)/\(↑s:Int)<(↑q10.length:Int)/\∀ (x:Snap),q10[s]? = some x->I64 x.id->I64 x.set->x.chunks.length*(8:Nat)<=q7->x.tag.b.length<=q7->q4/\at_<(↑q2.length:Int)/\(I64 q11.id->I64 q11.set->q11.chunks.length*(8:Nat)<=q7->q11.tag.b.length<=q7->(x.set=q11.set->I64 (q15+q5)/\I64 q14/\∃ (s':Nat),(at_=at_/\q15+q5=cG st q3 s' /\ q10=q10/\q9=q9/\q14=(↑s':Int)/\q0)/\(q13+s' <= q12/\q4)/\q12 - s' < q12 - s)/\(¬x.set=q11.set->I64 q14/\∃ (s':Nat),(at_=at_/\q15=cG st q3 s' /\ q10=q10/\q9=q9/\q14=(↑s':Int)/\q0)/\(q13+s' <= q12/\q4)/\q12 - s' < q12 - s)))/\(q9<=(↑s:Int)->decide (q15<st.keep)=r0)) ((↑s:Int)+q5)) (cG st q3 s)) (↑(List.drop q1 q2).length:Int)) (List.drop q1 q2)) (q2.getD q3 q6)) q2.length) (q3+(1:Nat)))) (st.version=st.version/\st.next=st.next/\st.keep=st.keep/\st.quota=st.quota/\st.sess=st.sess/\st.opens=st.opens/\q2=q2)) (at_+q5).toNat) st.snaps) at_.toNat) (q8<=at_)) (1:Int)) (dflt (Sh.nm NT.snap))) (140737488355328:Nat)) (0:Int)):=by kernel_rfl
theorem Gk (st:State) (at_:Int):Sat Tryz.prog (au aF) 98 [.agg (cellsOf (.nm .state) st),.c (.int (at_))] [] ⟨[],[.c (.bool (.atom ((fZ st at_))))],none,false⟩:=by
 refine aQ iU (DC st at_) Tryz.func98 (by decide) (by kernel_rfl) ?_
 rw [Er]
 (repeat' (first | with_reducible refine And.intro ?_ ?_ | with_reducible refine and_imp.2 ?_ | intro))
 all_goals try (first | (first | with_reducible rfl | with_reducible assumption | omega | (refine al ?_ ?_ <;> omega)) | exact tC | exact (mo (by assumption)) | exact (sE (by omega) (by omega)) | exact (lV (by omega) (by omega) (by rw [List.length_drop] at *; omega)) | exact (sA (by rw [show (at_+1).toNat=at_.toNat+1 by omega] at *; assumption) (by with_reducible assumption)) | exact (by have:=‹_<((List.length (List.drop _ _):Nat):Int)›; rw [List.length_drop] at this; omega) | exact (sC (by rw [show (at_+1).toNat=at_.toNat+1 by omega] at *; assumption) (by with_reducible assumption)))
 all_goals try (refine ⟨0,?_⟩; (repeat' (first | with_reducible refine And.intro ?_ ?_ | with_reducible refine and_imp.2 ?_ | intro)))
 all_goals try (first | (first | with_reducible rfl | with_reducible assumption | omega | (refine al ?_ ?_ <;> omega)) | exact tC | exact (mo (by assumption)) | exact (sE (by omega) (by omega)) | exact (lV (by omega) (by omega) (by rw [List.length_drop] at *; omega)) | exact (sA (by rw [show (at_+1).toNat=at_.toNat+1 by omega] at *; assumption) (by with_reducible assumption)) | exact (by have:=‹_<((List.length (List.drop _ _):Nat):Int)›; rw [List.length_drop] at this; omega) | exact (sC (by rw [show (at_+1).toNat=at_.toNat+1 by omega] at *; assumption) (by with_reducible assumption)))
 all_goals try (refine ⟨‹Nat› + 1,?_⟩; (repeat' (first | with_reducible refine And.intro ?_ ?_ | with_reducible refine and_imp.2 ?_ | intro)))
 all_goals (first | (first | with_reducible rfl | with_reducible assumption | omega | (refine al ?_ ?_ <;> omega)) | exact tC | exact (mo (by assumption)) | exact (sE (by omega) (by omega)) | exact (lV (by omega) (by omega) (by rw [List.length_drop] at *; omega)) | exact (sA (by rw [show (at_+1).toNat=at_.toNat+1 by omega] at *; assumption) (by with_reducible assumption)) | exact (by have:=‹_<((List.length (List.drop _ _):Nat):Int)›; rw [List.length_drop] at this; omega) | exact (sC (by rw [show (at_+1).toNat=at_.toNat+1 by omega] at *; assumption) (by with_reducible assumption)))
def vI:cw:=(bS 98 (bL (ai (kT (.nm .state)) (ai (kC cI) aO)) aN fun (st,at_,_) (_)=>⟨[],[.c (.bool (.atom ((fZ st at_))))],none,false⟩) (bS 71 (bL (ai (kC cI) (ai (kC cB) (ai (kC cI) (ai (kC cI) aO)))) aN fun (n,used,lo,hi,_) (_)=>⟨[],[.c (.bool (.atom ((eM n used lo hi))))],none,false⟩) (bS 70 (bL (ai (kC cI) aO) aN fun (x,_) (_)=>⟨[],[.c (.int ((bw x)))],none,false⟩) (bS 72 (bL (ai (kC (cL .int)) aO) aN fun (l,_) (_)=>⟨[],[.c (.bool (.atom ((cF l))))],none,false⟩) wj))))
theorem jd:aT Tryz.prog (au aF) vI:=(aA (az (ab bI (ab (av ax) ao)) aq fun (st,at_,_) (_) _=>Gk st at_ ) (aA (az (ab (av ax) (ab (av oa) (ab (av ax) (ab (av ax) ao)))) aq fun (n,used,lo,hi,_) (_) _=>xj n used lo hi ) (aA (az (ab (av ax) ao) aq fun (x,_) (_) _=>Dc x ) (aA (az (ab (av bN) ao) aq fun (l,_) (_) _=>EY l ) iU))))
end Go.Proofs.YtdggohppeeaipaaGreat
namespace Go.Proofs.YtdggohppeeaipaaGreat
open Go.RowKit
theorem tg {α:Type} {l:List α} {k:Nat} {d:α} (h:(k:Int)<l.length):l.set k (l.getD k d)=l:=by
 have hk:k<l.length:=by omega
 rw [List.getD_eq_getElem?_getD,List.getElem?_eq_getElem hk]; exact List.set_getElem_self hk
def pP (l:List Snap) (k:Nat):Nat:=((List.range k).filter fun (i:Nat)=>decide (0<o_ ((i:Int)+1) l)).length
def distF (l:List Snap):Nat:=pP l 64
theorem Cl {l:List Snap} {k:Nat}:pP l k<=k:=by
 unfold pP; refine Nat.le_trans (List.length_filter_le _ _) ?_; simp
def zY (st:State):List (Nat × LI):=[(5,{ σ:=Nat,F:=fun k=>([(1,one (.ptr 0 0)),(2,one (.ptr 1 0)),(18,one (.int st.snaps.length)),(19,one (.int k))],[.box 26 ([.int ((st.version)),.int ((st.next)),.int ((st.keep)),.int ((st.quota)),.own 2,.own 3,.own 4]),.box 26 ([.int ((0)),.int ((0)),.int ((0)),.int ((0)),.em true,.em true,.em true]),.row 44 (.nm .sess) ((st.sess)),.row 77 (.nm .opn) ((st.opens)),.row 59 (.nm .snap) ((st.snaps))]),J:=fun k=>k<=st.snaps.length,μ:=fun k=>st.snaps.length - k })]
theorem EH (st:State) (v:Int) (r0:Int):cP aF vI [] Tryz.f77 [.agg (cellsOf (.nm .state) st),.c (.int (v))] [] [.c (.int (r0))]=((fun (q12:Int)=>(fun (q11:Bool)=>(fun (q10:Bool)=>(fun (q9:Int)=>(fun (q8:Int)=>(fun (q7:Int)=>(fun (q6:Int)=>(fun (q5:Int)=>(fun (q4:Int)=>(fun (q3:Prop)=>(fun (q2:Prop)=>(fun (q1:Prop)=>(fun (q0:Prop)=>I64 st.version->I64 q12->I64 st.keep->I64 q8->st.sess.length*(32:Nat)<=(140737488355328:Nat)->st.opens.length*(16:Nat)<=(140737488355328:Nat)->st.snaps.length*(64:Nat)<=(140737488355328:Nat)->I64 v->(bl v q6 q9=false->q6=r0)/\(bl v q6 q9=true->(v<q9->q5<=q7/\q5<=q7/\(((q0/\bl q8 q4 q4=true)/\q1)/\q2->q6<=q12/\q12<=q7)/\((((q3\/bl q8 q4 q4=false)\/ak Sess.client q5 q4 st.sess=false\/q11=false)\/ak Opn.set q5 q4 st.opens=false\/q10=false)\/dx st v=false->(6:Int)=r0)/\((((q0/\bl q8 q4 q4=true)/\q1)/\q2)/\dx st v=true->q4=r0))/\(q9<=v->q5<=q7/\q5<=q7/\(((q0/\bl q8 q4 (64:Int)=true)/\q1)/\q2->q6<=q12/\q12<=q7)/\((((q3\/bl q8 q4 (64:Int)=false)\/ak Sess.client q5 q4 st.sess=false\/q11=false)\/ak Opn.set q5 q4 st.opens=false\/q10=false)\/dx st v=false->(6:Int)=r0)/\((((q0/\bl q8 q4 (64:Int)=true)/\q1)/\q2)/\dx st v=true->q4=r0)))) ((bl st.version q6 q9=true/\bl q12 q6 q7=true)/\bl st.keep q4 q5=true)) (ak Sess.client q5 q4 st.sess=true/\q11=true)) (ak Opn.set q5 q4 st.opens=true/\q10=true)) ((bl st.version q6 q9=false\/bl q12 q6 q7=false)\/bl st.keep q4 q5=false)) (0:Int)) (8:Int)) (1:Int)) (1048576:Int)) st.quota) (3:Int)) (st.opens.all bR)) (st.sess.all bM)) st.next):=by kernel_rfl
theorem FR (st:State) (v:Int):Sat Tryz.prog (au aF) 77 [.agg (cellsOf (.nm .state) st),.c (.int (v))] [] ⟨[],[.c (.int ((mayF st v)))],none,false⟩:=by
 refine aQ jd [] Tryz.func77 (by decide) (by kernel_rfl) ?_
 rw [EH]
 (repeat' (first | with_reducible refine And.intro ?_ ?_ | with_reducible refine and_imp.2 ?_ | intro))
 all_goals (first | (first | with_reducible rfl | with_reducible assumption | omega | (refine al ?_ ?_ <;> omega)) | exact (kD (a:=1) (b:=1048576) (by with_reducible assumption)).1 | exact (kD (a:=1) (b:=1048576) (by with_reducible assumption)).2 | (simp only [mayF,cW,lG,jG]; grind))
theorem Br (c:Command) (v:Int) (r0:Int):cP aF vI [] Tryz.f84 [.agg (cellsOf (.nm .command) c),.c (.int (v))] [] [.c (.int (r0))]=((fun (q0:Int)=>I64 c.kind->I64 c.client->I64 c.seq->I64 c.set->I64 c.id->I64 c.n->c.chunks.length*(8:Nat)<=(140737488355328:Nat)->c.text.b.length<=(140737488355328:Nat)->I64 v->I64 q0->(jN v=false\/q0=(0:Int)->(1:Int)=r0)/\(jN v=true/\¬q0=(0:Int)->(v<q0->(10:Int)=r0)/\(q0<=v->(di c=false->(1:Int)=r0)/\(di c=true->(0:Int)=r0)))) (bw c.kind)):=by kernel_rfl
theorem Cm (c:Command) (v:Int):Sat Tryz.prog (au aF) 84 [.agg (cellsOf (.nm .command) c),.c (.int (v))] [] ⟨[],[.c (.int ((aY c v)))],none,false⟩:=by
 refine aQ jd [] Tryz.func84 (by decide) (by kernel_rfl) ?_
 rw [Br]
 rw [show jN v=bl v 1 3 from rfl]
 (repeat' (first | with_reducible refine And.intro ?_ ?_ | with_reducible refine and_imp.2 ?_ | intro))
 all_goals (first | (first | with_reducible rfl | with_reducible assumption | omega | (refine al ?_ ?_ <;> omega)) | (simp only [aY]; grind))
theorem BC (st:State) (r0:Int) (r1:Int) (r2:Int) (r3:Int) (r4:List Sess) (r5:List Opn) (r6:List Snap):sa aF vI (zY st) Tryz.f32 [.agg (cellsOf (.nm .state) st)] [] [.agg ([.int (r0),.int (r1),.int (r2),.int (r3),.own 0,.own 1,.own 2])] [.row 44 (.nm .sess) (r4),.row 77 (.nm .opn) (r5),.row 59 (.nm .snap) (r6)]=((fun (q4:Int)=>(fun (q3:Nat)=>(fun (q2:den (Sh.nm NT.snap))=>(fun (q1:Prop)=>(fun (q0:List Snap)=>I64 q4->I64 st.next->I64 st.keep->I64 st.quota->st.sess.length*(32:Nat)<=q3->st.opens.length*(16:Nat)<=q3->q0.length*(64:Nat)<=q3->∃ (s0:Nat),(fun (q5:Nat)=>((↑q0.length:Int)=(↑q5:Int)/\(0:Int)=(↑s0:Int)/\q4=q4/\st.next=st.next/\st.keep=st.keep/\st.quota=st.quota/\q1/\q1/\q1/\q1/\st.sess=st.sess/\st.opens=st.opens/\q0=q0)/\s0<=q5/\∀ (s:Nat),(fun (q7:den (Sh.nm NT.snap))=>(fun (q6:Prop)=>s<=q5->((↑s:Int)<(↑q5:Int)->(0:Int)<=(↑s:Int)/\(↑s:Int)<(↑q0.length:Int)/\(0:Int)<=(↑s:Int)/\(↑s:Int)<(↑q0.length:Int)/\(I64 q7.id->I64 q7.set->q6->q7.tag.b.length<=q3->q6->I64 q7.id->I64 q7.set->q6->q7.tag.b.length<=q3->I64 ((↑s:Int)+(1:Int))/\∃ (s':Nat),((↑q5:Int)=(↑q5:Int)/\(↑s:Int)+(1:Int)=(↑s':Int)/\q4=q4/\st.next=st.next/\st.keep=st.keep/\st.quota=st.quota/\q1/\q1/\q1/\q1/\st.sess=st.sess/\st.opens=st.opens/\q0.set s q7=q0)/\s' <= q5/\q5 - s' < q5 - s))/\((↑q5:Int)<=(↑s:Int)->q4=r0/\st.next=r1/\st.keep=r2/\st.quota=r3/\st.sess=r4/\st.opens=r5/\q0=r6)) (q7.chunks.length*(8:Nat)<=q3)) (q0.getD s q2)) q0.length) st.snaps) ((0:Int)=(0:Int))) (dflt (Sh.nm NT.snap))) (140737488355328:Nat)) st.version):=by kernel_rfl
theorem CG (st:State):Sat Tryz.prog (au aF) 32 [.agg (cellsOf (.nm .state) st)] [] ⟨[],[.agg ([.int ((st.version)),.int ((st.next)),.int ((st.keep)),.int ((st.quota)),.own 0,.own 1,.own 2])],some ([.row 44 (.nm .sess) ((st.sess)),.row 77 (.nm .opn) ((st.opens)),.row 59 (.nm .snap) ((st.snaps))]),true⟩:=by
 refine eg jd (zY st) Tryz.func32 (by decide) (by kernel_rfl) ?_
 rw [BC]
 (repeat' (first | with_reducible refine And.intro ?_ ?_ | with_reducible refine and_imp.2 ?_ | intro))
 all_goals try (first | (first | with_reducible rfl | with_reducible assumption | omega | (refine al ?_ ?_ <;> omega)) | exact rfl | exact (tg (by omega)))
 all_goals try (refine ⟨0,?_⟩; (repeat' (first | with_reducible refine And.intro ?_ ?_ | with_reducible refine and_imp.2 ?_ | intro)))
 all_goals try (first | (first | with_reducible rfl | with_reducible assumption | omega | (refine al ?_ ?_ <;> omega)) | exact rfl | exact (tg (by omega)))
 all_goals try (refine ⟨‹Nat› + 1,?_⟩; (repeat' (first | with_reducible refine And.intro ?_ ?_ | with_reducible refine and_imp.2 ?_ | intro)))
 all_goals (first | (first | with_reducible rfl | with_reducible assumption | omega | (refine al ?_ ?_ <;> omega)) | exact rfl | exact (tg (by omega)))
theorem CY (x:Snap) (y:Snap) (r0:Bool):cP aF vI [] Tryz.f106 [.agg (cellsOf (.nm .snap) x),.agg (cellsOf (.nm .snap) y)] [] [.c (.bool (.atom (r0)))]=(I64 x.id->I64 x.set->x.chunks.length*(8:Nat)<=(140737488355328:Nat)->x.tag.b.length<=(140737488355328:Nat)->I64 y.id->I64 y.set->y.chunks.length*(8:Nat)<=(140737488355328:Nat)->y.tag.b.length<=(140737488355328:Nat)->(decide (x.chunks=y.chunks) && decide (x.id=y.id) && decide (x.set=y.set) && x.held == y.held && decide (x.tag=y.tag))=r0):=by kernel_rfl
theorem Bj (x:Snap) (y:Snap):Sat Tryz.prog (au aF) 106 [.agg (cellsOf (.nm .snap) x),.agg (cellsOf (.nm .snap) y)] [] ⟨[],[.c (.bool (.atom ((decide (x=y)))))],none,false⟩:=by
 refine aQ jd [] Tryz.func106 (by decide) (by kernel_rfl) ?_
 rw [CY]
 intros; cases x; cases y; simp only [Snap.mk.injEq]; grind
def qi:cw:=(bS 106 (bL (ai (kT (.nm .snap)) (ai (kT (.nm .snap)) aO)) aN fun (x,y,_) (_)=>⟨[],[.c (.bool (.atom ((decide (x=y)))))],none,false⟩) (bS 32 (bL (ai (kT (.nm .state)) aO) aN fun (st,_) (_)=>⟨[],[.agg ([.int ((st.version)),.int ((st.next)),.int ((st.keep)),.int ((st.quota)),.own 0,.own 1,.own 2])],some ([.row 44 (.nm .sess) ((st.sess)),.row 77 (.nm .opn) ((st.opens)),.row 59 (.nm .snap) ((st.snaps))]),true⟩) (bS 84 (bL (ai (kT (.nm .command)) (ai (kC cI) aO)) aN fun (c,v,_) (_)=>⟨[],[.c (.int ((aY c v)))],none,false⟩) (bS 77 (bL (ai (kT (.nm .state)) (ai (kC cI) aO)) aN fun (st,v,_) (_)=>⟨[],[.c (.int ((mayF st v)))],none,false⟩) vI))))
theorem ji:aT Tryz.prog (au aF) qi:=(aA (az (ab bI (ab bI ao)) aq fun (x,y,_) (_) _=>Bj x y ) (aA (az (ab bI ao) aq fun (st,_) (_) _=>CG st ) (aA (az (ab bI (ab (av ax) ao)) aq fun (c,v,_) (_) _=>Cm c v ) (aA (az (ab bI (ab (av ax) ao)) aq fun (st,v,_) (_) _=>FR st v ) jd))))
end Go.Proofs.YtdggohppeeaipaaGreat
namespace Go.Proofs.YtdggohppeeaipaaGreat
open Go.RowKit
def ck (s:State):State:={ s with sess:=s.sess.take 20,opens:=s.opens.take 20,snaps:=(s.snaps.take 20).map fun x=>{ x with chunks:=x.chunks.take 12,tag:=x.tag.cut 0 40 } }
def iW (l:List Snap) (id:Int) (k:Nat):List Int:=((List.range k).filter fun (i:Nat)=>decide (0<o_ ((i:Int)+1) l) && decide (o_ ((i:Int)+1) (aX id l)=0)).map fun (i:Nat)=>(i:Int)+1
def cA (xs:List Int) (l:List Int):List Int:=l.foldl (fun xs n=>if 1<=n/\n<=64 then xs.set n.toNat (xs.getD n.toNat 0+1) else xs) xs
theorem xB {a b:List Snap} {k:Nat} (h:a.take k=b.take k) (e:decide (a.getD k (dflt (.nm .snap))=b.getD k (dflt (.nm .snap)))=true) (hk:(k:Int)<a.length) (hb:(k:Int)<b.length):a.take (k+1)=b.take (k+1):=qw h (by omega) (by omega) (of_decide_eq_true e)
theorem zZ {a b:List Snap} {k:Nat} (e:decide (a.getD k (dflt (.nm .snap))=b.getD k (dflt (.nm .snap)))=false) (_:(k:Int)<a.length) (_:(k:Int)<b.length):false=decide (a=b):=by
 symm; apply decide_eq_false; rintro rfl; simp at e
theorem Eu {l:List Snap} {id:Int} (h:nch l<=1048576):nch (aX id l)<=1048576:=by
 refine Nat.le_trans ?_ h
 unfold nch aX
 induction l with
 | nil=>exact Nat.le_refl _
 | cons x l ih=>
  have hl:(l.flatMap Snap.chunks).length<=1048576:=by unfold nch at h; rw [List.flatMap_cons,List.length_append] at h; omega
  have:=ih hl
  rw [List.filter_cons,List.flatMap_cons,List.length_append]
  split
  ·rw [List.flatMap_cons,List.length_append]; omega
  ·omega
def ft (l:List Snap) (id:Int):List Int:=iW l id 64
theorem uX {st:State} {k:Nat} {x:Snap} (hx:st.snaps[k]? = some x) (h:(k:Int)<20):(ck st).snaps[k]? = some { x with chunks:=x.chunks.take 12,tag:=x.tag.cut 0 40 }:=by
 show (List.map _ (st.snaps.take 20))[k]? = _
 rw [List.getElem?_map,List.getElem?_take_of_lt (by omega),hx]; rfl
theorem EF {st:State} {k:Nat} {x:Snap} (hx:st.snaps[k]? = some x) (h:(k:Int)<20) (_:12<(x.chunks.length:Int)) (_:40<(x.tag.b.length:Int)):(ck st).snaps.take k++[Snap.mk x.id x.set (x.chunks.take 12) x.held ⟨x.tag.b.take 40⟩]=(ck st).snaps.take (k+1):=by
 rw [aD (uX hx h)]; rfl
theorem Gp {st:State} {k:Nat} {x:Snap} (hx:st.snaps[k]? = some x) (h:(k:Int)<20) (_:12<(x.chunks.length:Int)) (h2:(x.tag.b.length:Int)<=40):(ck st).snaps.take k++[Snap.mk x.id x.set (x.chunks.take 12) x.held x.tag]=(ck st).snaps.take (k+1):=by
 rw [aD (uX hx h),show x.tag.cut 0 40=x.tag from (lR h2).symm]
theorem Ge {st:State} {k:Nat} {x:Snap} (hx:st.snaps[k]? = some x) (h:(k:Int)<20) (h1:(x.chunks.length:Int)<=12) (_:40<(x.tag.b.length:Int)):(ck st).snaps.take k++[Snap.mk x.id x.set x.chunks x.held ⟨x.tag.b.take 40⟩]=(ck st).snaps.take (k+1):=by
 rw [aD (uX hx h),show x.chunks.take 12=x.chunks from List.take_of_length_le (by omega)]; rfl
theorem FU {st:State} {k:Nat} {x:Snap} (hx:st.snaps[k]? = some x) (h:(k:Int)<20) (h1:(x.chunks.length:Int)<=12) (h2:(x.tag.b.length:Int)<=40):(ck st).snaps.take k++[x]=(ck st).snaps.take (k+1):=by
 rw [aD (uX hx h),show x.chunks.take 12=x.chunks from List.take_of_length_le (by omega),show x.tag.cut 0 40=x.tag from (lR h2).symm]
theorem HG {st:State}:(ck st).snaps.length=min 20 st.snaps.length:=by
 show (List.map _ (st.snaps.take 20)).length=_
 rw [List.length_map,List.length_take]
theorem te {st:State} {k:Nat} {y:Snap} (h:(k:Int)<20):(((ck st).snaps.take k).length+[y].length)*64<=140737488355328:=by
 rw [List.length_take]; simp only [List.length_cons,List.length_nil]; omega
theorem AR {st:State} {k:Nat} (h:(k:Int)<20) (h2:(k:Int)<st.snaps.length):k+1<=(ck st).snaps.length:=by rw [HG]; omega
theorem zj {st:State} {k:Nat} (h:(st.snaps.length:Int)<=k\/20<=(k:Int)):(ck st).snaps.length<=k:=by rw [HG]; omega
def nr (xs l:List Int):Prop:=∀ i,0<=xs.getD i 0/\xs.getD i 0+l.length<=4611686018427387904
theorem pU {xs:List Int} {i j:Nat} {v:Int}:(xs.set j v).getD i 0=if j=i/\j<xs.length then v else xs.getD i 0:=by
 rw [List.getD_eq_getElem?_getD,List.getElem?_set,List.getD_eq_getElem?_getD]
 by_cases h:j=i
 ·subst h
  by_cases h2:j<xs.length
  ·simp [h2]
  ·simp [h2]
 ·simp [h]
theorem tc:∀ (l xs:List Int) (i:Nat),xs.getD i 0<=(cA xs l).getD i 0/\(cA xs l).getD i 0<=xs.getD i 0+l.length
 | [],xs,i=>by simp [cA]
 | n :: l,xs,i=>by
  have h:=tc l (if 1<=n/\n<=64 then xs.set n.toNat (xs.getD n.toNat 0+1) else xs) i
  have e:cA xs (n :: l)=cA (if 1<=n/\n<=64 then xs.set n.toNat (xs.getD n.toNat 0+1) else xs) l:=rfl
  rw [e]
  have h2:xs.getD i 0<=(if 1<=n/\n<=64 then xs.set n.toNat (xs.getD n.toNat 0+1) else xs).getD i 0/\(if 1<=n/\n<=64 then xs.set n.toNat (xs.getD n.toNat 0+1) else xs).getD i 0<=xs.getD i 0+1:=by
   split
   ·rw [pU]; split
    ·rename_i h3; rw [h3.1]; omega
    ·omega
   ·omega
  rw [List.length_cons]; omega
theorem qP {xs l:List Int} {k:Nat} {n:Int} (hx:l[k]? = some n):cA xs (l.take (k+1))=if 1<=n/\n<=64 then (cA xs (l.take k)).set n.toNat ((cA xs (l.take k)).getD n.toNat 0+1) else cA xs (l.take k):=by
 rw [aD hx,cA,List.foldl_append]; rfl
theorem xe {xs l:List Int} {k:Nat} {n:Int} (hx:l[k]? = some n) (h:1<=n/\n<=64):(cA xs (l.take k)).set n.toNat ((cA xs (l.take k)).getD n.toNat (dflt .int)+1)=cA xs (l.take (k+1)):=by rw [qP hx,if_pos h]; rfl
theorem Aa {xs l:List Int} {k:Nat} {n:Int} (hx:l[k]? = some n) (h:¬ (1<=n/\n<=64)):cA xs (l.take k)=cA xs (l.take (k+1)):=by rw [qP hx,if_neg h]
theorem yf {xs l:List Int} {k:Nat} {n:Int} (h:nr xs l):I64 ((cA xs (l.take k)).getD n.toNat (dflt .int)+1):=by
 have h1:=tc (l.take k) xs n.toNat
 have h2:=h n.toNat
 rw [List.length_take] at h1
 show I64 ((cA xs (l.take k)).getD n.toNat 0+1)
 constructor <;> omega
theorem Ek {l:List Snap} {id:Int} {k:Nat} {n:Int} (h:k<=64):((iW l id k).length+[n].length)*8<=140737488355328:=by
 unfold iW
 have:=List.length_filter_le (fun (i:Nat)=>decide (0<o_ ((i:Int)+1) l) && decide (o_ ((i:Int)+1) (aX id l)=0)) (List.range k)
 rw [List.length_range] at this
 rw [List.length_map]; simp only [List.length_cons,List.length_nil]; omega
def nU (a:List Snap) (b:List Snap):List (Nat × LI):=[(4,{ σ:=Nat,F:=fun k=>([(0,one (.fz (.nm .snap) (a))),(1,one (.fz (.nm .snap) (b))),(5,one (.int k))],[]),J:=fun k=>k<=a.length/\a.length=b.length/\a.take k=b.take k,μ:=fun k=>a.length - k })]
def Hi (l:List Int) (xs:List Int):List (Nat × LI):=[(1,{ σ:=Nat,F:=fun k=>([(0,one (.ptr 0 0)),(6,one (.fz .int (l))),(7,one (.int (l).length)),(8,one (.int k))],[.arr 108 .int 65 ((cA xs (l.take k)))]),J:=fun k=>k<=l.length,μ:=fun k=>(l).length - k })]
theorem Gd (st:State) (c:Command) (r0:Int):cP aF qi [] Tryz.f33 [.agg (cellsOf (.nm .state) st),.agg (cellsOf (.nm .command) c)] [] [.c (.int (r0))]=((fun (q0:Int)=>I64 q0->I64 st.next->I64 st.keep->I64 st.quota->st.sess.length*(32:Nat)<=(140737488355328:Nat)->st.opens.length*(16:Nat)<=(140737488355328:Nat)->st.snaps.length*(64:Nat)<=(140737488355328:Nat)->I64 c.kind->I64 c.client->I64 c.seq->I64 c.set->I64 c.id->I64 c.n->c.chunks.length*(8:Nat)<=(140737488355328:Nat)->c.text.b.length<=(140737488355328:Nat)->I64 (mayF st q0)->(¬mayF st q0=(0:Int)->(1:Int)=r0)/\(mayF st q0=(0:Int)->I64 (aY c q0)->aY c q0=r0)) st.version):=by kernel_rfl
theorem Em (st:State) (c:Command):Sat Tryz.prog (au aF) 33 [.agg (cellsOf (.nm .state) st),.agg (cellsOf (.nm .command) c)] [] ⟨[],[.c (.int ((if mayF st st.version=0 then aY c st.version else 1)))],none,false⟩:=by
 refine aQ ji [] Tryz.func33 (by decide) (by kernel_rfl) ?_
 rw [Gd]
 grind
theorem sL (a:List Snap) (b:List Snap) (r0:Bool):cP aF qi (nU a b) Tryz.f66 [.c (.fz (.nm .snap) (a)),.c (.fz (.nm .snap) (b))] [] [.c (.bool (.atom (r0)))]=((fun (q3:Nat)=>(fun (q2:Nat)=>(fun (q1:Int)=>(fun (q0:den (Sh.nm NT.snap))=>a.length*(64:Nat)<=q3->b.length*(64:Nat)<=q3->(¬q1=(↑b.length:Int)->false=r0)/\(q1=(↑b.length:Int)->∃ (s0:Nat),(a=a/\b=b/\(0:Int)=(↑s0:Int))/\(s0<=q2/\q2=b.length/\List.take s0 a=List.take s0 b)/\∀ (s:Nat),(fun (q5:den (Sh.nm NT.snap))=>(fun (q4:den (Sh.nm NT.snap))=>s<=q2/\q2=b.length/\List.take s a=List.take s b->((↑s:Int)<q1->(0:Int)<=(↑s:Int)/\(↑s:Int)<q1/\(0:Int)<=(↑s:Int)/\(↑s:Int)<(↑b.length:Int)/\(I64 q4.id->I64 q4.set->q4.chunks.length*(8:Nat)<=q3->q4.tag.b.length<=q3->I64 q5.id->I64 q5.set->q5.chunks.length*(8:Nat)<=q3->q5.tag.b.length<=q3->(decide (q4=q5)=false->false=r0)/\(decide (q4=q5)=true->I64 ((↑s:Int)+(1:Int))/\∃ (s':Nat),(a=a/\b=b/\(↑s:Int)+(1:Int)=(↑s':Int))/\(s' <= q2/\q2=b.length/\List.take s' a=List.take s' b)/\q2 - s' < q2 - s)))/\(q1<=(↑s:Int)->true=r0)) (a.getD s q0)) (b.getD s q0))) (dflt (Sh.nm NT.snap))) (↑a.length:Int)) a.length) (140737488355328:Nat)):=by kernel_rfl
theorem sG (a:List Snap) (b:List Snap):Sat Tryz.prog (au aF) 66 [.c (.fz (.nm .snap) (a)),.c (.fz (.nm .snap) (b))] [] ⟨[],[.c (.bool (.atom ((decide (a=b)))))],none,false⟩:=by
 refine aQ ji (nU a b) Tryz.func66 (by decide) (by kernel_rfl) ?_
 rw [sL]
 (repeat' (first | with_reducible refine And.intro ?_ ?_ | with_reducible refine and_imp.2 ?_ | intro))
 all_goals try (first | (first | with_reducible rfl | with_reducible assumption | omega | (refine al ?_ ?_ <;> omega)) | exact rfl | exact (jV (by with_reducible assumption)) | exact (xB (by with_reducible assumption) (by with_reducible assumption) (by with_reducible assumption) (by omega)) | exact (zZ (by with_reducible assumption) (by omega) (by omega)) | exact (eU (by omega) (by with_reducible assumption) (by omega)))
 all_goals try (refine ⟨0,?_⟩; (repeat' (first | with_reducible refine And.intro ?_ ?_ | with_reducible refine and_imp.2 ?_ | intro)))
 all_goals try (first | (first | with_reducible rfl | with_reducible assumption | omega | (refine al ?_ ?_ <;> omega)) | exact rfl | exact (jV (by with_reducible assumption)) | exact (xB (by with_reducible assumption) (by with_reducible assumption) (by with_reducible assumption) (by omega)) | exact (zZ (by with_reducible assumption) (by omega) (by omega)) | exact (eU (by omega) (by with_reducible assumption) (by omega)))
 all_goals try (refine ⟨‹Nat› + 1,?_⟩; (repeat' (first | with_reducible refine And.intro ?_ ?_ | with_reducible refine and_imp.2 ?_ | intro)))
 all_goals (first | (first | with_reducible rfl | with_reducible assumption | omega | (refine al ?_ ?_ <;> omega)) | exact rfl | exact (jV (by with_reducible assumption)) | exact (xB (by with_reducible assumption) (by with_reducible assumption) (by with_reducible assumption) (by omega)) | exact (zZ (by with_reducible assumption) (by omega) (by omega)) | exact (eU (by omega) (by with_reducible assumption) (by omega)))
theorem GY (l:List Int) (xs:List Int) (r0:List Int):n_ aF qi (Hi l xs) Tryz.f126 [.c (.ptr 0 0),.c (.fz .int (l))] [.arr 108 .int 65 (xs)] [] [.arr 108 .int 65 (r0)]=((fun (q1:Int)=>(fun (q0:Nat)=>l.length*(8:Nat)<=(140737488355328:Nat)->∃ (s0:Nat),(fun (q2:Int)=>(l=l/\(↑l.length:Int)=q2/\(0:Int)=(↑s0:Int)/\xs=cA xs (List.take s0 l))/\s0<=q0/\∀ (s:Nat),(fun (q4:Int)=>(fun (q3:List Int)=>s<=q0->((↑s:Int)<q2->(0:Int)<=(↑s:Int)/\(↑s:Int)<(↑l.length:Int)/\∀ (x:Int),(fun (q5:den Sh.int)=>l[s]? = some x->I64 x->(q1<=x/\x<=(64:Int)->(0:Int)<=x/\x<(↑(65:Nat):Int)/\x.toNat<(65:Nat)/\I64 (q5+q1)/\(0:Int)<=x/\x<(↑(65:Nat):Int)/\(I64 q5->x.toNat<(65:Nat)/\I64 q4/\∃ (s':Nat),(l=l/\q2=q2/\q4=(↑s':Int)/\q3.set x.toNat (q5+q1)=cA xs (List.take s' l))/\s' <= q0/\q0 - s' < q0 - s))/\(x<q1\/(64:Int)<x->I64 q4/\∃ (s':Nat),(l=l/\q2=q2/\q4=(↑s':Int)/\q3=cA xs (List.take s' l))/\s' <= q0/\q0 - s' < q0 - s)) (q3.getD x.toNat (dflt Sh.int)))/\(q2<=(↑s:Int)->q3=r0)) (cA xs (List.take s l))) ((↑s:Int)+q1)) (↑q0:Int)) l.length) (1:Int)):=by kernel_rfl
theorem Hz (l:List Int) (xs:List Int) (h0:nr xs l):Sat Tryz.prog (au aF) 126 [.c (.ptr 0 0),.c (.fz .int (l))] [.arr 108 .int 65 (xs)] ⟨[nr xs l],[],some ([.arr 108 .int 65 ((cA xs l))]),false⟩:=by
 refine dt ji (Hi l xs) Tryz.func126 (by decide) (by kernel_rfl) ?_
 rw [GY]
 (repeat' (first | with_reducible refine And.intro ?_ ?_ | with_reducible refine and_imp.2 ?_ | intro))
 all_goals try (first | (first | with_reducible rfl | with_reducible assumption | omega | (refine al ?_ ?_ <;> omega)) | exact rfl | exact (xe (by with_reducible assumption) (by constructor <;> omega)) | exact (Aa (by with_reducible assumption) (by omega)) | exact (by rw [List.take_of_length_le (by omega)]) | exact (yf (by with_reducible assumption)))
 all_goals try (refine ⟨0,?_⟩; (repeat' (first | with_reducible refine And.intro ?_ ?_ | with_reducible refine and_imp.2 ?_ | intro)))
 all_goals try (first | (first | with_reducible rfl | with_reducible assumption | omega | (refine al ?_ ?_ <;> omega)) | exact rfl | exact (xe (by with_reducible assumption) (by constructor <;> omega)) | exact (Aa (by with_reducible assumption) (by omega)) | exact (by rw [List.take_of_length_le (by omega)]) | exact (yf (by with_reducible assumption)))
 all_goals try (refine ⟨‹Nat› + 1,?_⟩; (repeat' (first | with_reducible refine And.intro ?_ ?_ | with_reducible refine and_imp.2 ?_ | intro)))
 all_goals (first | (first | with_reducible rfl | with_reducible assumption | omega | (refine al ?_ ?_ <;> omega)) | exact rfl | exact (xe (by with_reducible assumption) (by constructor <;> omega)) | exact (Aa (by with_reducible assumption) (by omega)) | exact (by rw [List.take_of_length_le (by omega)]) | exact (yf (by with_reducible assumption)))
def DF:cw:=(bS 126 (bL (ai (kC (bQ 0 0)) (ai (kC (cL .int)) aO)) (ay (pB 108 .int 65) aN) fun (_,l,_) (xs,_)=>⟨[nr xs l],[],some ([.arr 108 .int 65 ((cA xs l))]),false⟩) (bS 66 (bL (ai (kC (cL (.nm .snap))) (ai (kC (cL (.nm .snap))) aO)) aN fun (a,b,_) (_)=>⟨[],[.c (.bool (.atom ((decide (a=b)))))],none,false⟩) (bS 33 (bL (ai (kT (.nm .state)) (ai (kT (.nm .command)) aO)) aN fun (st,c,_) (_)=>⟨[],[.c (.int ((if mayF st st.version=0 then aY c st.version else 1)))],none,false⟩) qi)))
theorem yv:aT Tryz.prog (au aF) DF:=(aA (az (ab (av aJ) (ab (av bN) ao)) (ag fl aq) fun (_,l,_) (xs,_) hp=>Hz l xs (fb hp)) (aA (az (ab (av bN) (ab (av bN) ao)) aq fun (a,b,_) (_) _=>sG a b ) (aA (az (ab bI (ab bI ao)) aq fun (st,c,_) (_) _=>Em st c ) ji)))
end Go.Proofs.YtdggohppeeaipaaGreat
namespace Go.Proofs.YtdggohppeeaipaaGreat
open Go.RowKit
section
variable {B:Bool} {k:Nat}
variable {st:State} {v:Int}
end
def tV:cw:=DF
theorem lU:aT Tryz.prog (au aF) tV:=yv
end Go.Proofs.YtdggohppeeaipaaGreat
namespace Go.Proofs.YtdggohppeeaipaaGreat
open Go.RowKit
theorem Av {c:Command} {lo hi:Int} (hlo:lo=(iB c.kind).1) (hhi:hi=(iB c.kind).2):((((((eM c.client (!decide (c.kind=8)) 1 8 && eM c.seq (!decide (c.kind=8) && !decide (c.kind=1)) 1 1048576) && eM c.set (bl c.kind 2 4) 1 8) && eM c.id (decide (c.kind=5) || decide (c.kind=7) || bl c.kind 9 11) 1 1048576) && eM c.n (decide (c.kind=6) || decide (c.kind=8) || decide (c.kind=12)) lo hi) && uO c) && (decide (((c.text.b.length:Nat):Int)=0) || (decide (c.kind=11) && decide (((c.text.b.length:Nat):Int)<=16))))=di c:=by
 subst hlo; subst hhi; exact yX
theorem IM {c:Command} {v:Int} (h:bl v 1 3=false\/bw c.kind=0):1=aY c v:=by
 refine Hy ?_
 rcases h with h | h
 ·rw [h]; rfl
 ·rw [decide_eq_true h,Bool.or_true]
theorem Fk {c:Command} {v:Int} (h1:bl v 1 3=true) (h2:¬ bw c.kind=0):(!(bl v 1 3) || decide (bw c.kind=0))=false:=by rw [h1,decide_eq_false h2]; rfl
theorem Hq {c:Command} {v:Int} (h1:bl v 1 3=true) (h2:¬ bw c.kind=0) (h3:v<bw c.kind):10=aY c v:=FL (Fk h1 h2) h3
theorem Iu {c:Command} {v lo hi:Int} {p:Prop} (h1:bl v 1 3=true) (h2:¬ bw c.kind=0) (h3:bw c.kind<=v) (h:((((((eM c.client (!decide (c.kind=8)) 1 8=false\/eM c.seq (!decide (c.kind=8) && !decide (c.kind=1)) 1 1048576=false)\/eM c.set (bl c.kind 2 4) 1 8=false)\/eM c.id (decide (c.kind=5) || decide (c.kind=7) || bl c.kind 9 11) 1 1048576=false)\/eM c.n (decide (c.kind=6) || decide (c.kind=8) || decide (c.kind=12)) lo hi=false)\/p)\/¬ ((c.text.b.length:Nat):Int)=0/\(¬ c.kind=11\/16<((c.text.b.length:Nat):Int)))) (hlo:lo=(iB c.kind).1) (hhi:hi=(iB c.kind).2) (hp:p->uO c=false):1=aY c v:=by
 refine Ez (Fk h1 h2) (by omega) ?_
 rw [<- Av hlo hhi]
 rcases h with (((((h | h) | h) | h) | h) | h) | ⟨h,k⟩
 ·rw [h]; simp
 ·rw [h]; simp
 ·rw [h]; simp
 ·rw [h]; simp
 ·rw [h]; simp
 ·rw [hp h]; simp
 ·rcases k with k | k
  ·rw [decide_eq_false h,decide_eq_false k]; simp
  ·rw [decide_eq_false h,decide_eq_false (show ¬ ((c.text.b.length:Nat):Int)<=16 by omega)]; simp
theorem Ir {c:Command} {v lo hi:Int} (h1:bl v 1 3=true) (h2:¬ bw c.kind=0) (h3:bw c.kind<=v) (ha:eM c.client (!decide (c.kind=8)) 1 8=true) (hb:eM c.seq (!decide (c.kind=8) && !decide (c.kind=1)) 1 1048576=true) (hc:eM c.set (bl c.kind 2 4) 1 8=true) (hd:eM c.id (decide (c.kind=5) || decide (c.kind=7) || bl c.kind 9 11) 1 1048576=true) (he:eM c.n (decide (c.kind=6) || decide (c.kind=8) || decide (c.kind=12)) lo hi=true) (hq:uO c=true) (ht:((c.text.b.length:Nat):Int)=0\/c.kind=11/\((c.text.b.length:Nat):Int)<=16) (hlo:lo=(iB c.kind).1) (hhi:hi=(iB c.kind).2):0=aY c v:=by
 refine Ho (Fk h1 h2) (by omega) ?_
 rw [<- Av hlo hhi,ha,hb,hc,hd,he,hq]
 rcases ht with ht | ⟨ht,k⟩
 ·rw [decide_eq_true ht]; rfl
 ·rw [decide_eq_true ht,decide_eq_true k]; simp
theorem HN {c:Command} {b:Bool} (h:c.kind=3) (k:cF c.chunks=b):uO c=b:=by rw [uO,if_pos h]; exact k
theorem Hc {c:Command} (h:¬ c.kind=3) (k:¬ ((c.chunks.length:Nat):Int)=0):uO c=false:=by rw [uO,if_neg h]; exact decide_eq_false k
theorem DU {c:Command} (h:¬ c.kind=3) (k:((c.chunks.length:Nat):Int)=0):uO c=true:=by rw [uO,if_neg h]; exact decide_eq_true k
theorem vQ {a b:State} (h:((((¬ a.version=b.version\/¬ a.next=b.next)\/¬ a.keep=b.keep)\/¬ a.quota=b.quota)\/¬ ((a.sess.length:Nat):Int)=(b.sess.length:Nat))\/¬ ((a.opens.length:Nat):Int)=(b.opens.length:Nat)):false=decide (a=b):=by
 symm; apply decide_eq_false; rintro rfl; simp at h
theorem wb {a b:State} {s:Nat} (h:¬ (a.sess.getD s (dflt (.nm .sess))).client=(b.sess.getD s (dflt (.nm .sess))).client\/¬ (a.sess.getD s (dflt (.nm .sess))).seq=(b.sess.getD s (dflt (.nm .sess))).seq\/¬ (a.sess.getD s (dflt (.nm .sess))).last.code=(b.sess.getD s (dflt (.nm .sess))).last.code\/¬ (a.sess.getD s (dflt (.nm .sess))).last.n=(b.sess.getD s (dflt (.nm .sess))).last.n):false=decide (a=b):=by
 symm; apply decide_eq_false; rintro rfl; simp at h
theorem wQ {a b:State} {s:Nat} (h:¬ (a.opens.getD s (dflt (.nm .opn))).set=(b.opens.getD s (dflt (.nm .opn))).set\/¬ (a.opens.getD s (dflt (.nm .opn))).client=(b.opens.getD s (dflt (.nm .opn))).client):false=decide (a=b):=by
 symm; apply decide_eq_false; rintro rfl; simp at h
theorem Da {x y:Sess} (h1:x.client=y.client) (h2:x.seq=y.seq) (h3:x.last.code=y.last.code) (h4:x.last.n=y.last.n):x=y:=by
 obtain ⟨a,b,⟨c,d⟩⟩:=x; obtain ⟨a',b',⟨c',d'⟩⟩:=y; simp_all
theorem Ft {x y:Opn} (h1:x.set=y.set) (h2:x.client=y.client):x=y:=by cases x; cases y; simp_all
theorem nt {a b:List Sess} {s:Nat} (h:a.take s=b.take s) (h1:(a.getD s (dflt (.nm .sess))).client=(b.getD s (dflt (.nm .sess))).client) (h2:(a.getD s (dflt (.nm .sess))).seq=(b.getD s (dflt (.nm .sess))).seq) (h3:(a.getD s (dflt (.nm .sess))).last.code=(b.getD s (dflt (.nm .sess))).last.code) (h4:(a.getD s (dflt (.nm .sess))).last.n=(b.getD s (dflt (.nm .sess))).last.n) (ha:s<a.length) (hb:s<b.length):a.take (s+1)=b.take (s+1):=qw h ha hb (Da h1 h2 h3 h4)
theorem nq {a b:List Opn} {s:Nat} (h:a.take s=b.take s) (h1:(a.getD s (dflt (.nm .opn))).set=(b.getD s (dflt (.nm .opn))).set) (h2:(a.getD s (dflt (.nm .opn))).client=(b.getD s (dflt (.nm .opn))).client) (ha:s<a.length) (hb:s<b.length):a.take (s+1)=b.take (s+1):=qw h ha hb (Ft h1 h2)
theorem vM {a b:State} {s q:Nat} (h1:a.version=b.version) (h2:a.next=b.next) (h3:a.keep=b.keep) (h4:a.quota=b.quota) (h5:a.sess.take s=b.sess.take s) (h6:a.opens.take q=b.opens.take q) (ha:a.sess.length<=s) (hb:b.sess.length<=s) (hc:a.opens.length<=q) (hd:b.opens.length<=q):decide (a.snaps=b.snaps)=decide (a=b):=by
 rw [List.take_of_length_le ha,List.take_of_length_le hb] at h5
 rw [List.take_of_length_le hc,List.take_of_length_le hd] at h6
 cases a; cases b; simp_all
def yw (a:State) (b:State):List (Nat × LI):=[(4,{ σ:=Nat,F:=fun k=>([(2,one (.ptr 0 0)),(3,one (.ptr 1 0)),(5,one (.int k))],[.box 26 (cellsOf (.nm .state) ((a))),.box 26 (cellsOf (.nm .state) ((b)))]),J:=fun k=>k<=a.sess.length/\a.sess.take k=b.sess.take k,μ:=fun k=>a.sess.length - k }),(9,{ σ:=Nat,F:=fun k=>([(2,one (.ptr 0 0)),(3,one (.ptr 1 0)),(6,one (.int k))],[.box 26 (cellsOf (.nm .state) ((a))),.box 26 (cellsOf (.nm .state) ((b)))]),J:=fun k=>k<=a.opens.length/\a.opens.take k=b.opens.take k,μ:=fun k=>a.opens.length - k })]
theorem Fq (c:Command) (v:Int) (r0:Int):cP aF tV [] Tryz.f19 [.agg (cellsOf (.nm .command) c),.c (.int (v))] [] [.c (.int (r0))]=((fun (q14:Int)=>(fun (q13:Int)=>(fun (q12:Int)=>(fun (q11:Bool)=>(fun (q10:Int)=>(fun (q9:Int)=>(fun (q8:Int)=>(fun (q7:Int)=>(fun (q6:Int)=>(fun (q5:Prop)=>(fun (q4:Prop)=>(fun (q3:Prop)=>(fun (q2:Bool)=>(fun (q1:Prop)=>(fun (q0:Prop)=>I64 q6->I64 c.client->I64 c.seq->I64 c.set->I64 c.id->I64 c.n->c.chunks.length*(8:Nat)<=(140737488355328:Nat)->c.text.b.length<=(140737488355328:Nat)->I64 v->(bl v q7 q9=true->I64 (bw q6))->(bl v q7 q9=false\/bw q6=q8->q7=r0)/\(bl v q7 q9=true/\¬bw q6=q8->I64 (bw q6)->(v<bw q6->(10:Int)=r0)/\(bw q6<=v->(q6=q10->(q6=(12:Int)->(q6=q9->(((q0\/eM c.n q2 q12 q14=false)\/q11=false)\/q3->q7=r0)/\(((q1/\eM c.n q2 q12 q14=true)/\q11=true)/\q4->q8=r0))/\(¬q6=q9->(((q0\/eM c.n q2 q12 q14=false)\/¬q5)\/q3->q7=r0)/\(((q1/\eM c.n q2 q12 q14=true)/\q5)/\q4->q8=r0)))/\(¬q6=(12:Int)->(q6=q9->(((q0\/eM c.n q2 q12 q9=false)\/q11=false)\/q3->q7=r0)/\(((q1/\eM c.n q2 q12 q9=true)/\q11=true)/\q4->q8=r0))/\(¬q6=q9->(((q0\/eM c.n q2 q12 q9=false)\/¬q5)\/q3->q7=r0)/\(((q1/\eM c.n q2 q12 q9=true)/\q5)/\q4->q8=r0))))/\(¬q6=q10->(q6=(12:Int)->(q6=q9->(((q0\/eM c.n q2 q8 q14=false)\/q11=false)\/q3->q7=r0)/\(((q1/\eM c.n q2 q8 q14=true)/\q11=true)/\q4->q8=r0))/\(¬q6=q9->(((q0\/eM c.n q2 q8 q14=false)\/¬q5)\/q3->q7=r0)/\(((q1/\eM c.n q2 q8 q14=true)/\q5)/\q4->q8=r0)))/\(¬q6=(12:Int)->(q6=q9->(((q0\/eM c.n q2 q8 q10=false)\/q11=false)\/q3->q7=r0)/\(((q1/\eM c.n q2 q8 q10=true)/\q11=true)/\q4->q8=r0))/\(¬q6=q9->(((q0\/eM c.n q2 q8 q10=false)\/¬q5)\/q3->q7=r0)/\(((q1/\eM c.n q2 q8 q10=true)/\q5)/\q4->q8=r0))))))) (((eM c.client (!decide (q6=q10)) q7 q10=false\/eM c.seq (!decide (q6=q10) && !decide (q6=q7)) q7 (1048576:Int)=false)\/eM c.set (bl q6 q12 (4:Int)) q7 q10=false)\/eM c.id (decide (q6=(5:Int)) || decide (q6=(7:Int)) || bl q6 (9:Int) (11:Int)) q7 (1048576:Int)=false)) (((eM c.client (!decide (q6=q10)) q7 q10=true/\eM c.seq (!decide (q6=q10) && !decide (q6=q7)) q7 (1048576:Int)=true)/\eM c.set (bl q6 q12 (4:Int)) q7 q10=true)/\eM c.id (decide (q6=(5:Int)) || decide (q6=(7:Int)) || bl q6 (9:Int) (11:Int)) q7 (1048576:Int)=true)) (decide (q6=(6:Int)) || decide (q6=q10) || decide (q6=(12:Int)))) (¬q13=q8/\(¬q6=(11:Int)\/(16:Int)<q13))) (q13=q8\/q6=(11:Int)/\q13<=(16:Int))) ((↑c.chunks.length:Int)=q8)) c.kind) (1:Int)) (0:Int)) (3:Int)) (8:Int)) (cF c.chunks)) (2:Int)) (↑c.text.b.length:Int)) (64:Int)):=by kernel_rfl
theorem EB (c:Command) (v:Int):Sat Tryz.prog (au aF) 19 [.agg (cellsOf (.nm .command) c),.c (.int (v))] [] ⟨[],[.c (.int ((aY c v)))],none,false⟩:=by
 refine aQ lU [] Tryz.func19 (by decide) (by kernel_rfl) ?_
 rw [Fq]
 (repeat' (first | with_reducible refine And.intro ?_ ?_ | with_reducible refine and_imp.2 ?_ | intro))
 all_goals (first | (first | with_reducible rfl | with_reducible assumption | omega | (refine al ?_ ?_ <;> omega)) | exact IM (by assumption) | exact Hq (by with_reducible assumption) (by with_reducible assumption) (by omega) | exact Iu (by with_reducible assumption) (by with_reducible assumption) (by omega) (by assumption) (by simp only [iB]; (repeat split) <;> omega) (by simp only [iB]; (repeat split) <;> omega) (fun hq=>by first | exact HN (by with_reducible assumption) hq | exact Hc (by with_reducible assumption) hq | exact DU (by with_reducible assumption) hq) | exact Ir (by with_reducible assumption) (by with_reducible assumption) (by omega) (by with_reducible assumption) (by with_reducible assumption) (by with_reducible assumption) (by with_reducible assumption) (by with_reducible assumption) (by first | exact HN (by with_reducible assumption) (by with_reducible assumption) | exact DU (by with_reducible assumption) (by with_reducible assumption)) (by assumption) (by simp only [iB]; (repeat split) <;> omega) (by simp only [iB]; (repeat split) <;> omega))
theorem Di (a:State) (b:State) (r0:Bool):cP aF tV (yw a b) Tryz.f16 [.agg (cellsOf (.nm .state) a),.agg (cellsOf (.nm .state) b)] [] [.c (.bool (.atom (r0)))]=((fun (q8:Nat)=>(fun (q7:Int)=>(fun (q6:List Opn)=>(fun (q5:List Sess)=>(fun (q4:den (Sh.nm NT.opn))=>(fun (q3:List Opn)=>(fun (q2:List Sess)=>(fun (q1:den (Sh.nm NT.sess))=>(fun (q0:Prop)=>I64 a.version->I64 a.next->I64 a.keep->I64 a.quota->q2.length*(32:Nat)<=q8->q3.length*(16:Nat)<=q8->a.snaps.length*(64:Nat)<=q8->I64 b.version->I64 b.next->I64 b.keep->I64 b.quota->q5.length*(32:Nat)<=q8->q6.length*(16:Nat)<=q8->b.snaps.length*(64:Nat)<=q8->(((((¬a.version=b.version\/¬a.next=b.next)\/¬a.keep=b.keep)\/¬a.quota=b.quota)\/¬(↑q2.length:Int)=(↑q5.length:Int))\/¬(↑q3.length:Int)=(↑q6.length:Int)->false=r0)/\(((((a.version=b.version/\a.next=b.next)/\a.keep=b.keep)/\a.quota=b.quota)/\(↑q2.length:Int)=(↑q5.length:Int))/\(↑q3.length:Int)=(↑q6.length:Int)->∃ (s0:Nat),(q7=(↑s0:Int)/\q0)/\(s0<=q2.length/\List.take s0 q2=List.take s0 q5)/\∀ (s:Nat),(fun (q10:den (Sh.nm NT.sess))=>(fun (q9:den (Sh.nm NT.sess))=>s<=q2.length/\List.take s q2=List.take s q5->((↑s:Int)<(↑q2.length:Int)->q7<=(↑s:Int)/\(↑s:Int)<(↑q2.length:Int)/\q7<=(↑s:Int)/\(↑s:Int)<(↑q5.length:Int)/\(I64 q10.client->I64 q10.seq->I64 q10.last.code->I64 q10.last.n->I64 q9.client->I64 q9.seq->I64 q9.last.code->I64 q9.last.n->(¬q10.client=q9.client\/¬q10.seq=q9.seq\/¬q10.last.code=q9.last.code\/¬q10.last.n=q9.last.n->false=r0)/\(q10.client=q9.client/\q10.seq=q9.seq/\q10.last.code=q9.last.code/\q10.last.n=q9.last.n->I64 ((↑s:Int)+(1:Int))/\∃ (s':Nat),((↑s:Int)+(1:Int)=(↑s':Int)/\q0)/\(s' <= q2.length/\List.take s' q2=List.take s' q5)/\q2.length - s' < q2.length - s)))/\((↑q2.length:Int)<=(↑s:Int)->∃ (s0:Nat),(q7=(↑s0:Int)/\q0)/\(s0<=q3.length/\List.take s0 q3=List.take s0 q6)/\∀ (s:Nat),(fun (q12:den (Sh.nm NT.opn))=>(fun (q11:den (Sh.nm NT.opn))=>s<=q3.length/\List.take s q3=List.take s q6->((↑s:Int)<(↑q3.length:Int)->q7<=(↑s:Int)/\(↑s:Int)<(↑q3.length:Int)/\q7<=(↑s:Int)/\(↑s:Int)<(↑q6.length:Int)/\(I64 q12.set->I64 q12.client->I64 q11.set->I64 q11.client->(¬q12.set=q11.set\/¬q12.client=q11.client->false=r0)/\(q12.set=q11.set/\q12.client=q11.client->I64 ((↑s:Int)+(1:Int))/\∃ (s':Nat),((↑s:Int)+(1:Int)=(↑s':Int)/\q0)/\(s' <= q3.length/\List.take s' q3=List.take s' q6)/\q3.length - s' < q3.length - s)))/\((↑q3.length:Int)<=(↑s:Int)->decide (a.snaps=b.snaps)=r0)) (q6.getD s q4)) (q3.getD s q4))) (q5.getD s q1)) (q2.getD s q1))) (a.version=a.version/\a.next=a.next/\a.keep=a.keep/\a.quota=a.quota/\q2=q2/\q3=q3/\a.snaps=a.snaps/\b.version=b.version/\b.next=b.next/\b.keep=b.keep/\b.quota=b.quota/\q5=q5/\q6=q6/\b.snaps=b.snaps)) (dflt (Sh.nm NT.sess))) a.sess) a.opens) (dflt (Sh.nm NT.opn))) b.sess) b.opens) (0:Int)) (140737488355328:Nat)):=by kernel_rfl
theorem Cb (a:State) (b:State):Sat Tryz.prog (au aF) 16 [.agg (cellsOf (.nm .state) a),.agg (cellsOf (.nm .state) b)] [] ⟨[],[.c (.bool (.atom ((decide (a=b)))))],none,false⟩:=by
 refine aQ lU (yw a b) Tryz.func16 (by decide) (by kernel_rfl) ?_
 rw [Di]
 (repeat' (first | with_reducible refine And.intro ?_ ?_ | with_reducible refine and_imp.2 ?_ | intro))
 all_goals try (first | (first | with_reducible rfl | with_reducible assumption | omega | (refine al ?_ ?_ <;> omega)) | exact rfl | exact (vQ (by assumption)) | exact (wb (by assumption)) | exact (wQ (by assumption)) | exact (nt (by with_reducible assumption) (by with_reducible assumption) (by with_reducible assumption) (by with_reducible assumption) (by with_reducible assumption) (by omega) (by omega)) | exact (nq (by with_reducible assumption) (by with_reducible assumption) (by with_reducible assumption) (by omega) (by omega)) | exact (vM (by with_reducible assumption) (by with_reducible assumption) (by with_reducible assumption) (by with_reducible assumption) (by with_reducible assumption) (by with_reducible assumption) (by omega) (by omega) (by omega) (by omega)))
 all_goals try (refine ⟨0,?_⟩; (repeat' (first | with_reducible refine And.intro ?_ ?_ | with_reducible refine and_imp.2 ?_ | intro)))
 all_goals try (first | (first | with_reducible rfl | with_reducible assumption | omega | (refine al ?_ ?_ <;> omega)) | exact rfl | exact (vQ (by assumption)) | exact (wb (by assumption)) | exact (wQ (by assumption)) | exact (nt (by with_reducible assumption) (by with_reducible assumption) (by with_reducible assumption) (by with_reducible assumption) (by with_reducible assumption) (by omega) (by omega)) | exact (nq (by with_reducible assumption) (by with_reducible assumption) (by with_reducible assumption) (by omega) (by omega)) | exact (vM (by with_reducible assumption) (by with_reducible assumption) (by with_reducible assumption) (by with_reducible assumption) (by with_reducible assumption) (by with_reducible assumption) (by omega) (by omega) (by omega) (by omega)))
 all_goals try (have hg:(‹Nat›:Int)<(a.sess.length:Int):=(by omega); clear hg; refine ⟨‹Nat› + 1,?_⟩; (repeat' (first | with_reducible refine And.intro ?_ ?_ | with_reducible refine and_imp.2 ?_ | intro)))
 all_goals try (first | (first | with_reducible rfl | with_reducible assumption | omega | (refine al ?_ ?_ <;> omega)) | exact rfl | exact (vQ (by assumption)) | exact (wb (by assumption)) | exact (wQ (by assumption)) | exact (nt (by with_reducible assumption) (by with_reducible assumption) (by with_reducible assumption) (by with_reducible assumption) (by with_reducible assumption) (by omega) (by omega)) | exact (nq (by with_reducible assumption) (by with_reducible assumption) (by with_reducible assumption) (by omega) (by omega)) | exact (vM (by with_reducible assumption) (by with_reducible assumption) (by with_reducible assumption) (by with_reducible assumption) (by with_reducible assumption) (by with_reducible assumption) (by omega) (by omega) (by omega) (by omega)))
 all_goals try (have hg:((a.sess.length:Nat):Int)<=(‹Nat›:Int):=(by omega); clear hg; refine ⟨0,?_⟩; (repeat' (first | with_reducible refine And.intro ?_ ?_ | with_reducible refine and_imp.2 ?_ | intro)))
 all_goals try (first | (first | with_reducible rfl | with_reducible assumption | omega | (refine al ?_ ?_ <;> omega)) | exact rfl | exact (vQ (by assumption)) | exact (wb (by assumption)) | exact (wQ (by assumption)) | exact (nt (by with_reducible assumption) (by with_reducible assumption) (by with_reducible assumption) (by with_reducible assumption) (by with_reducible assumption) (by omega) (by omega)) | exact (nq (by with_reducible assumption) (by with_reducible assumption) (by with_reducible assumption) (by omega) (by omega)) | exact (vM (by with_reducible assumption) (by with_reducible assumption) (by with_reducible assumption) (by with_reducible assumption) (by with_reducible assumption) (by with_reducible assumption) (by omega) (by omega) (by omega) (by omega)))
 all_goals try (refine ⟨‹Nat› + 1,?_⟩; (repeat' (first | with_reducible refine And.intro ?_ ?_ | with_reducible refine and_imp.2 ?_ | intro)))
 all_goals try (first | (first | with_reducible rfl | with_reducible assumption | omega | (refine al ?_ ?_ <;> omega)) | exact rfl | exact (vQ (by assumption)) | exact (wb (by assumption)) | exact (wQ (by assumption)) | exact (nt (by with_reducible assumption) (by with_reducible assumption) (by with_reducible assumption) (by with_reducible assumption) (by with_reducible assumption) (by omega) (by omega)) | exact (nq (by with_reducible assumption) (by with_reducible assumption) (by with_reducible assumption) (by omega) (by omega)) | exact (vM (by with_reducible assumption) (by with_reducible assumption) (by with_reducible assumption) (by with_reducible assumption) (by with_reducible assumption) (by with_reducible assumption) (by omega) (by omega) (by omega) (by omega)))
 all_goals (first | (first | with_reducible rfl | with_reducible assumption | omega | (refine al ?_ ?_ <;> omega)) | exact rfl | exact (vQ (by assumption)) | exact (wb (by assumption)) | exact (wQ (by assumption)) | exact (nt (by with_reducible assumption) (by with_reducible assumption) (by with_reducible assumption) (by with_reducible assumption) (by with_reducible assumption) (by omega) (by omega)) | exact (nq (by with_reducible assumption) (by with_reducible assumption) (by with_reducible assumption) (by omega) (by omega)) | exact (vM (by with_reducible assumption) (by with_reducible assumption) (by with_reducible assumption) (by with_reducible assumption) (by with_reducible assumption) (by with_reducible assumption) (by omega) (by omega) (by omega) (by omega)))
def nB:cw:=(bS 16 (bL (ai (kT (.nm .state)) (ai (kT (.nm .state)) aO)) aN fun (a,b,_) (_)=>⟨[],[.c (.bool (.atom ((decide (a=b)))))],none,false⟩) (bS 19 (bL (ai (kT (.nm .command)) (ai (kC cI) aO)) aN fun (c,v,_) (_)=>⟨[],[.c (.int ((aY c v)))],none,false⟩) tV))
theorem fU:aT Tryz.prog (au aF) nB:=(aA (az (ab bI (ab bI ao)) aq fun (a,b,_) (_) _=>Cb a b ) (aA (az (ab bI (ab (av ax) ao)) aq fun (c,v,_) (_) _=>EB c v ) lU))
end Go.Proofs.YtdggohppeeaipaaGreat
