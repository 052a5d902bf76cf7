/- The words of the engine as one simp set. -/
import Derived.Test.YthinfokelgcipaaAx16
namespace Go.AX
set_option linter.unusedSimpArgs false
set_option linter.unusedVariables false
open Go Go.RowKit
attribute [go_sem ↓] tailC_nil tailC_cons del_del del_add_self del_add_ne del_fresh find_add_self find_add_ne V_skip V_label V_exit V_ret
attribute [go_sem ↓] V_seq V_block V_cond V_region V_draw V_loop acond_bool aseq_normal aseq_exit aseq_ret ablock_normal ablock_ret
attribute [go_sem ↓] ablock_exit around_exit around_ret aend_ret aend_normal ares_nil ares_tmp ares_cell retv_one retv_two retv_nil T_nil
attribute [go_sem ↓] T_guard_t T_guard_f T_move T_assign T_pick T_binOp T_unOp T_extract T_convert T_load T_fieldAddr T_indexAddr
attribute [go_sem ↓] T_nilCheck T_makeFunc T_makeInterface T_index T_field T_slice T_build T_sliceToArrayPointer T_typeAssert T_store T_alloc T_box
attribute [go_sem ↓] T_call T_call0 T_buildSlice T_makeSlice T_makeMap T_lookup T_mapUpdate T_append T_len T_cap T_min T_max
attribute [go_sem ↓] wv_tmp wv_const wv_func wv_global wvs_nil wvs_cons alk_cons ag_undef ag_t ag_f pck_bool unv_not
attribute [go_sem ↓] unv_neg unv_xor extr_tuple fap_ptr nck_ptr nck_func osome_some osome_none acl_func AC_false AC_true newb_eq
attribute [go_sem ↓] stv_ptr bld_eq bsl_eq mks_int lkp_some lkp_none mup_some apd_slice apin_some apin_none app_add_self app_add_ne
attribute [go_sem ↓] mp_add_self mp_add_ne mset_add_self mset_add_ne rd_add_self rd_add_ne row_add_self row_add_ne wrs_add_self wrs_add_ne fresh_add gw_rd
attribute [go_sem ↓] gw_pu gw_al gw_ch gw_nil
attribute [go_sem] bsk_nil bsk_cons mres_some mres_none mput_some mput_none mlk_nil nInt_slice nInt_string slen_slice slen_string srow_some
attribute [go_sem] srow_none srow_string impl_t impl_f nd_eq bldk_nil bldk_cons cnv_int ldv_cell ldv_agg bin_add bin_sub
attribute [go_sem] bin_mul bin_eql bin_neq bin_lss bin_leq bin_gtr bin_geq bin_quo bin_rem bin_shl bin_shr bin_and
attribute [go_sem] bin_or bin_xor bin_andNot bin_eql_bool bin_neq_bool bin_eql_ptr_nil bin_neq_ptr_nil bin_eql_slice_nil bin_neq_slice_nil bin_eql_str bin_neq_str wo_some
attribute [go_sem] wo_none nv_eq nvl_eq nn_eq ixp_array ixp_slice aresc_agg aresc_cell vcells_agg vcells_bool vcells_int vcells_string
attribute [go_sem] vcells_ptr vcells_slice vcells_map vcells_func vcells_nilFunc vcells_iface vcells_nilIface lput_nil lput_cons scal_bool scal_int scal_string
attribute [go_sem] scal_ptr scal_slice scal_map scal_func scal_nilFunc scal_iface scal_nilIface rdb_len_str rdb_len_slice rdb_cap_slice rdb_min rdb_max
attribute [go_sem] isAggU argFrom bnd_none bnd_int isInt_none isInt_int rdop_slice_str rdop_index_str lks_nil lks_cons lput_full scal_bools
attribute [go_sem] scal_ints
attribute [go_sem ↓] List.map_cons List.map_nil
attribute [go_sem] List.length_set List.set_set Int.natCast_nonneg Nat.zero_add Nat.add_zero Nat.zero_mul Nat.mul_one true_and and_true and_self Option.bind_some Option.map_some
attribute [go_sem] Option.isNone_some Option.isNone_none Option.isSome_some Option.isSome_none Option.some.injEq List.length_cons List.length_nil List.getElem?_cons_zero List.getElem?_cons_succ List.set_cons_zero List.set_cons_succ List.all_cons
attribute [go_sem] List.all_nil Bool.and_true Bool.true_and Bool.and_self List.drop_zero List.drop_succ_cons List.take_succ_cons List.take_zero List.append_nil List.nil_append List.cons_append ne_eq
attribute [go_sem] not_false_eq_true not_true_eq_false decide_eq_true_eq decide_eq_false_iff_not beq_iff_eq beq_eq_false_iff_ne bne_iff_ne bne_eq_false_iff_eq forall_const false_implies true_implies implies_true
attribute [go_sem] Bool.true_eq_false Bool.false_eq_true Nat.lt_irrefl Nat.le_refl List.zip_cons_cons List.zip_nil_right List.zip_nil_left List.size_toArray List.getElem?_toArray Int.toNat_zero Bool.not_true Bool.not_false
attribute [go_sem] Nat.add_left_cancel_iff bne_self_eq_false decide_true decide_false beq_self_eq_true Bool.true_beq Bool.false_beq Int.ofNat_eq_natCast Int.cast_ofNat_Int List.length_map Int.toNat_natCast List.take_of_length_le
end Go.AX
